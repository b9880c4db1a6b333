/-
  Joined texts: Eg, Eh, Ei.
-/
import Derived.Test.YtpnmcacndjkfaaaGreatEf
set_option linter.unusedSimpArgs false
set_option linter.unusedVariables false
namespace Go.Proofs.YtpnmcacndjkfaaaGreat
open Go.RowKit Num
theorem rise_false {x:Vr}(h:x.mayRise=false):∃u,x.hi=some u∧u≤x.v:=by
 unfold Vr.mayRise at h;cases hh:x.hi with
 |none=>
  rw[hh]at h;cases h
 |some u=>
  rw[hh]at h;exact⟨u,rfl,Rat.not_lt.1 (of_decide_eq_false h)⟩
theorem fall_false {x:Vr}(h:x.mayFall=false):∃l,x.lo=some l∧x.v≤l:=by
 unfold Vr.mayFall at h;cases hh:x.lo with
 |none=>
  rw[hh]at h;cases h
 |some u=>
  rw[hh]at h;exact⟨u,rfl,Rat.not_lt.1 (of_decide_eq_false h)⟩
theorem Good.slack {p:Pg}{b:Tb}(h:Good p b){z:Nat→Rat}{v:Nat}(hv:v<b.vars.length)(hin:Inn (b.var v))(h1:z v<0→(b.var v).mayRise=false)(h2:0<z v→(b.var v).mayFall=false):z v*b.val v=z v*endE p z v:=by
 rw[inn_iff]at hin;rw[h.nv]at hv;have ev:(b.var v).v=b.val v:=rfl;by_cases g1:z v<0
 ·obtain⟨u,hu,hle⟩:=rise_false (h1 g1);have h3:=hin.2 u hu;rw[ev]at hle h3;have e:b.val v=endE p z v:=by
   unfold endE;by_cases hj:v<p.lo.length
   ·rw[if_pos hj,if_pos g1];have:=(h.elo v hj).2;rw[hu]at this;cases this;grind
   ·rw[if_neg hj];have:=(h.erow (v-p.lo.length) (by omega)).2;rw[show p.lo.length+(v-p.lo.length)=v by omega,hu]at this;cases this;grind
  rw[e]
 ·by_cases g2:0<z v
  ·obtain⟨u,hu,hle⟩:=fall_false (h2 g2);have h3:=hin.1 u hu;rw[ev]at hle h3;have e:b.val v=endE p z v:=by
    unfold endE;by_cases hj:v<p.lo.length
    ·rw[if_pos hj,if_neg g1];have:=(h.elo v hj).1;rw[hu]at this;cases this;grind
    ·have:=(h.erow (v-p.lo.length) (by omega)).1;rw[show p.lo.length+(v-p.lo.length)=v by omega,hu]at this;cases this
   rw[e]
  ·have:z v=0:=by grind
   rw[this,Rat.zero_mul,Rat.zero_mul]
theorem Good.row_fall {p:Pg}{b:Tb}(h:Good p b){i:Nat}(hi:i<p.a.length):(b.var (p.lo.length+i)).mayFall=true:=by
 unfold Vr.mayFall;rw[(h.erow i hi).1]
theorem Good.nodup {p:Pg}{b:Tb}(h:Good p b):b.free.Nodup:=nodup_of h.df
theorem Good.lt {p:Pg}{b:Tb}(h:Good p b):∀v∈b.free,v<p.lo.length+p.a.length:=fun v hv=>by
 obtain⟨k,hk,rfl⟩:=mem_iff_at.1 hv;rw[←h.nv];exact h.wf.fv k hk
theorem Good.out {p:Pg}{b:Tb}(h:Good p b){i:Nat}(hi:i<b.basic.length):b.B i∉b.free:=fun hv=>by
 obtain⟨k,hk,e⟩:=mem_iff_at.1 hv;exact h.dd i k hi hk e.symm
theorem zeros_at {b:Tb}{i:Nat}:(zerosT b).getD i 0=0:=by
 unfold zerosT;rw[List.getD_eq_getElem?_getD,List.getElem?_replicate];split<;>rfl
theorem Good.zeros_len {p:Pg}{b:Tb}(h:Good p b):(zerosT b).length=p.a.length:=by
 unfold zerosT;rw[List.length_replicate,h.nv,h.n];omega
theorem at_nonneg {y:List Rat}(h:∀i,i<y.length→0≤y.getD i 0):∀q∈y,0≤q:=fun q hq=>by
 obtain⟨i,hi,rfl⟩:=List.getElem_of_mem hq;have:=h i hi;rw[List.getD_eq_getElem?_getD,List.getElem?_eq_getElem hi]at this;exact this
structure Proof_ (p:Pg) (c:Option (List Int)) (y:List Rat):Prop where
 len:y.length=p.a.length
 pos:∀q∈y,0≤q
theorem Good.optimal {p:Pg}{b:Tb}(h:Good p b)(ha:AllIn b)(hc:cheapT b=none)(hh:p.hi.length=p.lo.length)(hb:p.a.length=p.b.length):Proof_ p (some p.c) (dualGo b.n (zerosT b) b.cost b.free)∧boundQ p (dualGo b.n (zerosT b) b.cost b.free) (some p.c)=rowM b.val p.c p.lo.length 0:=by
 have hch:=cheap_none h.wf.fc hc;have hzl:=h.zeros_len;obtain⟨d1,d2⟩:=dual_at b.n b.cost b.free (zerosT b) h.nodup (fun v hv=>by rw[hzl,h.n];exact h.lt v hv) h.wf.fc;rw[hzl]at d1 d2;generalize dualGo b.n (zerosT b) b.cost b.free=y at*;have hz:∀k,k<b.free.length→coef b.cost b.free (b.F k)=b.cost.getD k 0:=fun k hk=>coef_at _ _ _ h.nodup h.wf.fc hk;have sl:∀k,k<b.free.length→(coef b.cost b.free (b.F k)<0→(b.var (b.F k)).mayRise=false)∧(0<coef b.cost b.free (b.F k)→(b.var (b.F k)).mayFall=false):=fun k hk=>by
  rw[hz k hk];have:=hch k hk;rw[Bool.or_eq_false_iff]at this;obtain⟨t1,t2⟩:=this;refine⟨fun g=> ?_,fun g=> ?_⟩
  ·unfold cheapB at t1;rw[decide_eq_true g,Bool.true_and]at t1;exact t1
  ·rw[decide_eq_true g,Bool.true_and]at t2;exact t2
 have hdual:Dual p (some p.c) (coef b.cost b.free) y:=by
  refine⟨d1,fun i hi=> ?_,fun ξ hs=> ?_⟩
  ·rw[d2 i hi,h.n];split
   ·rfl
   ·rename_i hn;rw[zeros_at,coef_out _ _ _ hn];grind
  ·rw[←lin_coef ξ _ b.cost b.free h.nodup h.lt];exact(h.cost ξ hs).symm
 refine⟨⟨d1,at_nonneg fun i hi=> ?_⟩,?_⟩
 ·rw[d1]at hi;rw[hdual.y i hi];by_cases hm:p.lo.length+i∈b.free
  ·obtain⟨k,hk,e⟩:=mem_iff_at.1 hm;have:=(sl k hk).2;rw[show b.F k=p.lo.length+i from e,h.row_fall hi]at this;have:¬0<coef b.cost b.free (p.lo.length+i):=fun g=>by cases this g
   grind
  ·rw[coef_out _ _ _ hm];grind
 ·rw[hdual.bound hh hb];have hv:=h.cost b.val h.val;rw[hv,lin_coef b.val _ b.cost b.free h.nodup h.lt];refine sumR_congr _ _ fun v _ hv=> ?_;have hvl:v<b.vars.length:=by rw[h.nv];omega
  rcases h.all v hvl with ⟨i,hi,rfl⟩|⟨k,hk,rfl⟩
  ·rw[coef_out _ _ _ (h.out hi),Rat.zero_mul,Rat.zero_mul]
  ·exact(h.slack hvl (h.inn k hk) (sl k hk).1 (sl k hk).2).symm
theorem coef_map {f:Rat→Rat}(h0:f 0=0):∀(l:List Rat)(fr:List Nat)(v:Nat),coef (l.map f) fr v=f (coef l fr v)
 |[],fr,v=>h0.symm
 |a::l,[],v=>h0.symm
 |a::l,k::fr,v=>by
  show(if v=k then f a else coef (l.map f) fr v)=f (if v=k then a else coef l fr v);split
  ·rfl
  ·exact coef_map h0 l fr v
theorem Good.infeasible {p:Pg}{b:Tb}{i:Nat}(h:Good p b)(hbe:beyondT b=some i)(hhe:helpsT b i (b.var (b.B i)).below=none)(hh:p.hi.length=p.lo.length)(hb:p.a.length=p.b.length):Proof_ p none (proofT b i)∧0<boundQ p (proofT b i) none:=by
 obtain⟨s1,s2,_⟩:=beyond_some hbe;have hit:i<b.t.length:=by rw[←h.wf.bt];exact s1
 have hno:=helps_none (h.wf.ft i hit) hhe;have s2':((b.var (b.B i)).below||(b.var (b.B i)).above)=true:=s2;have hvB:b.B i<b.vars.length:=h.wf.bv i s1;have hzl:=h.zeros_len;generalize hup:(b.var (b.B i)).below=up at*;have hpr:proofT b i=if b.B i<b.n then proofGo b.n up (zerosT b) (b.t.getD i []) b.free else(proofGo b.n up (zerosT b) (b.t.getD i []) b.free).set (b.B i-b.n) 1:=by
  rw[←hup];rfl
 have hlow:up=true→b.B i<p.lo.length:=fun e=>by
  rw[e]at hup;obtain⟨l,hl,_⟩:=below_iff.1 hup;apply Nat.lt_of_not_le;intro hge;have:=(h.erow (b.B i-p.lo.length) (by rw[h.nv]at hvB;omega)).1;rw[show p.lo.length+(b.B i-p.lo.length)=b.B i by omega,hl]at this;cases this
 rw[proof_dual]at hpr;have e0:(if up then-(0:Rat) else 0)=0:=by cases up<;>grind
 obtain⟨d1,d2⟩:=dual_at b.n ((b.t.getD i []).map fun a=>if up then-a else a) b.free (zerosT b) h.nodup (fun v hv=>by rw[hzl,h.n];exact h.lt v hv) (by rw[List.length_map];exact h.wf.ft i hit);rw[hzl]at d1 d2;generalize dualGo b.n (zerosT b) ((b.t.getD i []).map fun a=>if up then-a else a) b.free=y0 at*;rw[hpr];clear hpr;rw[h.n]at d2⊢;have hco:∀v,coef ((b.t.getD i []).map fun a=>if up then-a else a) b.free v=if up then-coef (b.t.getD i []) b.free v else coef (b.t.getD i []) b.free v:=fun v=>coef_map (f:=fun a=>if up then-a else a) e0 _ _ _
 have hat:∀k,k<b.free.length→coef (b.t.getD i []) b.free (b.F k)=(b.t.getD i []).getD k 0:=fun k hk=>coef_at _ _ _ h.nodup (h.wf.ft i hit) hk;obtain⟨y,hy⟩:∃y,(if b.B i<p.lo.length then y0 else y0.set (b.B i-p.lo.length) 1)=y:=⟨_,rfl⟩;rw[hy];have yl:y.length=p.a.length:=by
  rw[←hy];split
  ·exact d1
  ·rw[List.length_set];exact d1
 obtain⟨z,hz⟩:∃z:Nat→Rat,z=fun v=>if up then(if v=b.B i then 1 else 0)-coef (b.t.getD i []) b.free v else coef (b.t.getD i []) b.free v-(if v=b.B i then 1 else 0):=⟨_,rfl⟩
 have hzB:z (b.B i)=if up then 1 else-1:=by
  rw[hz];simp only[if_pos,coef_out _ _ _ (h.out s1)];cases up<;>simp<;>grind
 have hzF:∀k,k<b.free.length→z (b.F k)=if up then-((b.t.getD i []).getD k 0) else(b.t.getD i []).getD k 0:=fun k hk=>by
  rw[hz];have hne:¬b.F k=b.B i:=fun e=>h.dd i k s1 hk e.symm;simp only[if_neg hne,hat k hk];cases up<;>simp<;>grind
 have hzO:∀v,v∉b.free→v≠b.B i→z v=0:=fun v hv hne=>by
  rw[hz];simp only[if_neg hne,coef_out _ _ _ hv];cases up<;>simp<;>grind
 have sl:∀k,k<b.free.length→(z (b.F k)<0→(b.var (b.F k)).mayRise=false)∧(0<z (b.F k)→(b.var (b.F k)).mayFall=false):=fun k hk=>by
  rw[hzF k hk];have:=hno k hk;unfold helpB at this;have e1:b.free.getD k 0=b.F k:=rfl;rw[e1]at this;generalize (b.t.getD i []).getD k 0=a at*;cases up with
  |true=>
   simp only[if_true,Bool.or_eq_false_iff]at this⊢;refine⟨fun g=> ?_,fun g=> ?_⟩
   ·rw[decide_eq_true (show 0<a by grind),Bool.true_and]at this;exact this.1
   ·rw[decide_eq_true (show a<0 by grind),Bool.true_and]at this;exact this.2
  |false=>
   simp only[Bool.false_eq_true,if_false,Bool.or_eq_false_iff]at this⊢;refine⟨fun g=> ?_,fun g=> ?_⟩
   ·rw[decide_eq_true (show a<0 by grind),Bool.true_and]at this;exact this.2
   ·rw[decide_eq_true (show 0<a by grind),Bool.true_and]at this;exact this.1
 have hyz:∀r,r<p.a.length→y.getD r 0= -z (p.lo.length+r):=fun r hr=>by
  rw[←hy];by_cases hB:p.lo.length+r=b.B i
  ·have hup2:up=false:=by
    cases hu:up with
    |false=>rfl
    |true=>have:=hlow hu;omega
   rw[hB,hzB,if_neg (show ¬b.B i<p.lo.length by omega),set_at (by omega),if_pos (show r=b.B i-p.lo.length by omega),hup2];simp
  ·have e1:(if b.B i<p.lo.length then y0 else y0.set (b.B i-p.lo.length) 1).getD r 0=y0.getD r 0:=by
    split
    ·rfl
    ·rw[set_at (by rw[h.nv]at hvB;omega),if_neg (show ¬r=b.B i-p.lo.length by omega)]
   rw[e1,d2 r hr];by_cases hm:p.lo.length+r∈b.free
   ·rw[if_pos hm,hco,hz];simp only[if_neg hB];cases up<;>simp<;>grind
   ·rw[if_neg hm,zeros_at,hzO _ hm hB];grind
 have hdual:Dual p none z y:=by
  refine⟨yl,hyz,fun ξ hs=> ?_⟩;have h1:=(h.eq ξ).1 hs i hit;rw[lin_coef ξ _ (b.t.getD i []) b.free h.nodup h.lt]at h1;have h2:=sumR_one (g:=fun v=>if v=b.B i then ξ (b.B i) else 0) (p.lo.length+p.a.length) 0 (b.B i) (Nat.zero_le _) (by rw[h.nv]at hvB;omega) (fun v hv=>if_neg hv);simp only[if_pos]at h2;have h3:=sumR_plus (fun v=>z v*ξ v) (fun v=>if up then coef (b.t.getD i []) b.free v*ξ v else if v=b.B i then ξ (b.B i) else 0) (p.lo.length+p.a.length) 0;have h4:sumR (fun v=>z v*ξ v+if up then coef (b.t.getD i []) b.free v*ξ v else if v=b.B i then ξ (b.B i) else 0) (p.lo.length+p.a.length) 0=sumR (fun v=>if up then(if v=b.B i then ξ (b.B i) else 0) else coef (b.t.getD i []) b.free v*ξ v) (p.lo.length+p.a.length) 0:=sumR_congr _ _ fun v _ _=>by
   rw[hz];cases up with
   |true=>
    simp only[if_true];by_cases e:v=b.B i
    ·subst e;simp only[if_true];grind
    ·simp only[if_neg e];grind
   |false=>
    simp only[Bool.false_eq_true,if_false];by_cases e:v=b.B i
    ·subst e;simp only[if_true];grind
    ·simp only[if_neg e];grind
  show _=(0:Rat);rw[h4]at h3;cases up with
  |true=>
   simp only[if_true]at h3;rw[h2,←h1]at h3;grind
  |false=>
   simp only[Bool.false_eq_true,if_false]at h3;rw[h2,←h1]at h3;grind
 refine⟨⟨yl,at_nonneg fun r hr=> ?_⟩,?_⟩
 ·rw[yl]at hr;rw[hyz r hr];by_cases hB:p.lo.length+r=b.B i
  ·have hup2:up=false:=by
    cases hu:up with
    |false=>rfl
    |true=>have:=hlow hu;omega
   rw[hB,hzB,hup2];simp;grind
  ·by_cases hm:p.lo.length+r∈b.free
   ·obtain⟨k,hk,e⟩:=mem_iff_at.1 hm;have:=(sl k hk).2;rw[show b.F k=p.lo.length+r from e,h.row_fall hr]at this;have:¬0<z (p.lo.length+r):=fun g=>by cases this g
    grind
   ·rw[hzO _ hm hB];grind
 ·rw[hdual.bound hh hb];have h0:=hdual.sat b.val h.val;have h0':sumR (fun v=>z v*b.val v) (p.lo.length+p.a.length) 0=0:=h0;rw[←h0'];refine sumR_lt _ _ (b.B i) (Nat.zero_le _) (by rw[h.nv]at hvB;omega) (fun v _ hv hne=> ?_) ?_
  ·have hvl:v<b.vars.length:=by rw[h.nv];omega
   rcases h.all v hvl with ⟨r,hr,rfl⟩|⟨k,hk,rfl⟩
   ·rw[hzO _ (h.out hr) hne,Rat.zero_mul,Rat.zero_mul]
   ·exact h.slack hvl (h.inn k hk) (sl k hk).1 (sl k hk).2
  ·rw[hzB];unfold endE;rw[hzB];cases hu:up with
   |true=>
    have hlt:=hlow hu;rw[hu]at hup;obtain⟨l,hl,hlv⟩:=below_iff.1 hup;have e1:=(h.elo _ hlt).1;rw[hl]at e1;cases e1;have e2:(b.var (b.B i)).v=b.val (b.B i):=rfl;rw[e2]at hlv;rw[if_pos hlt];simp only[if_true];rw[if_neg (by decide)];grind
   |false=>
    rw[hu]at s2';rw[Bool.false_or]at s2';obtain⟨u,hu1,hu2⟩:=above_iff.1 s2';have e2:(b.var (b.B i)).v=b.val (b.B i):=rfl;rw[e2]at hu2;simp only[Bool.false_eq_true,if_false];by_cases hlt:b.B i<p.lo.length
    ·have e1:=(h.elo _ hlt).2;rw[hu1]at e1;cases e1;rw[if_pos hlt,if_pos (by decide)];grind
    ·have e1:=(h.erow (b.B i-p.lo.length) (by rw[h.nv]at hvB;omega)).2;rw[show p.lo.length+(b.B i-p.lo.length)=b.B i by omega,hu1]at e1;cases e1;rw[if_neg hlt];grind
theorem Good.fits {p:Pg}{b:Tb}(h:Good p b)(ha:AllIn b):Fits p b.val:=by
 refine⟨fun j hj=> ?_,fun j hj=> ?_,fun i hi=> ?_⟩
 ·exact(inn_iff.1 (ha j (by rw[h.nv];omega))).1 _ (h.elo j hj).1
 ·exact(inn_iff.1 (ha j (by rw[h.nv];omega))).2 _ (h.elo j hj).2
 ·rw[←h.val i hi];exact(inn_iff.1 (ha (p.lo.length+i) (by rw[h.nv];omega))).2 _ (h.erow i hi).2
def sumF (f:Nat→Int):Nat→Int
 |0=>0
 |n+1=>sumF f n+f n
theorem rowM_snoc (ξ:Nat→Rat)(a:List Int):∀(m j:Nat),rowM ξ a (m+1) j=rowM ξ a m j+((a.getD (j+m) 0:Int):Rat)*ξ (j+m)
 |0,j=>by
  show((a.getD j 0:Int):Rat)*ξ j+0=0+((a.getD j 0:Int):Rat)*ξ j;rw[Rat.add_zero,Rat.zero_add]
 |m+1,j=>by
  show((a.getD j 0:Int):Rat)*ξ j+rowM ξ a (m+1) (j+1)=((a.getD j 0:Int):Rat)*ξ j+rowM ξ a m (j+1)+_;rw[rowM_snoc ξ a m (j+1),show j+1+m=j+(m+1) by omega,Rat.add_assoc]
theorem rowM_int (a:List Int)(x:Nat→Int):∀m:Nat,rowM (fun j=>((x j:Int):Rat)) a m 0=((sumF (fun j=>a.getD j 0*x j) m:Int):Rat)
 |0=>rfl
 |m+1=>by
  rw[rowM_snoc,rowM_int a x m,Nat.zero_add];show _=((sumF _ m+a.getD m 0*x m:Int):Rat);rw[Rat.intCast_add,Rat.intCast_mul]
structure FitsZ (p:Pg) (x:List Int):Prop where
 len:x.length=p.lo.length
 lo:∀j,j<p.lo.length→p.lo.getD j 0≤x.getD j 0
 hi:∀j,j<p.lo.length→x.getD j 0≤p.hi.getD j 0
 row:∀i,i<p.a.length→sumF (fun j=>(p.a.getD i []).getD j 0*x.getD j 0) p.lo.length≤p.b.getD i 0
theorem FitsZ.fits {p:Pg}{x:List Int}(h:FitsZ p x):Fits p fun j=>((x.getD j 0:Int):Rat):=by
 refine⟨fun j hj=>Rat.intCast_le_intCast.2 (h.lo j hj),fun j hj=>Rat.intCast_le_intCast.2 (h.hi j hj),fun i hi=> ?_⟩;rw[rowM_int];exact Rat.intCast_le_intCast.2 (h.row i hi)
theorem rowM_list:∀(x:List Rat)(c:List Int)(j:Nat)(ξ:Nat→Rat),x.length+j=c.length→(∀k,k<x.length→ξ (j+k)=x.getD k 0)→rowM ξ c x.length j=dotQ x (c.drop j)
 |[],c,j,ξ,_,_=>rfl
 |q::x,c,j,ξ,hl,h=>by
  rw[List.length_cons]at hl;rw[drop_at (z:=0) (by omega)];have h0:=h 0 (by simp);have h1:=rowM_list x c (j+1) ξ (by omega) fun k hk=>by
   rw[show j+1+k=j+(k+1) by omega];exact h (k+1) (by simpa using hk)
  show((c.getD j 0:Int):Rat)*ξ j+rowM ξ c x.length (j+1)=q*((c.getD j 0:Int):Rat)+dotQ x (c.drop (j+1));have h0':ξ j=q:=h0;rw[h1,h0',Rat.mul_comm]
theorem solve_cases {p:Pg}{P:Nat}(hr:rightPg p=true):(∃(x:List Rat)(y:List Rat)(v:Rat),solveT p P=⟨1,x,some v,y⟩∧x.length=p.lo.length∧Fits p (fun j=>x.getD j 0)∧Proof_ p (some p.c) y∧dotO 0 x p.c=some v∧boundQ p y (some p.c)=v∧rowM (fun j=>x.getD j 0) p.c p.lo.length 0=v)∨(∃y:List Rat,solveT p P=⟨2,[],none,y⟩∧Proof_ p none y∧0<boundQ p y none)∨solveT p P=⟨3,[],none,[]⟩:=by
 have hr':=hr;rw[rightPg]at hr';simp only[Bool.and_eq_true,decide_eq_true_eq]at hr';obtain⟨_,h2,h3,h4,_,_,_,_,_,h10,_⟩:=hr';unfold solveT;cases hA:(beginT p P).bind (answerT p) with
 |none=>exact .inr (.inr rfl)
 |some a=>
  obtain⟨b,hb,ha⟩:=Option.bind_eq_some_iff.1 hA;have hg:=begin_good hr hb;unfold answerT at ha;obtain⟨r,hf,ha⟩:=Option.bind_eq_some_iff.1 ha;have hfe:=feas_good (endsL_at h10 h2) _ _ hg hf;cases ho:r.2 with
  |some i=>
   rw[ho]at ha;cases ha;obtain⟨s1,s2⟩:=hfe.some i ho;obtain⟨t1,t2⟩:=hfe.good.infeasible s1 s2 h2 h4;exact .inr (.inl ⟨_,rfl,t1,t2⟩)
  |none=>
   rw[ho]at ha;obtain⟨b2,hb2,ha⟩:=Option.bind_eq_some_iff.1 ha;obtain⟨v,hv,rfl⟩:=Option.map_eq_some_iff.1 ha;obtain⟨g2,g3,g4⟩:=opt_good _ _ hfe.good (fun v hv=>hfe.good.all_in (hfe.none ho) hv) hb2;obtain⟨t1,t2⟩:=g2.optimal g3 g4 h2 h4;have hn:=g2.n;have hnv:=g2.nv;have hxl:((b2.vars.take b2.n).map (·.v)).length=p.lo.length:=by rw[List.length_map,List.length_take,hn,hnv];omega
   have hx:∀j,j<p.lo.length→((b2.vars.take b2.n).map (·.v)).getD j 0=b2.val j:=fun j hj=>by
    have hjl:j<b2.vars.length:=by omega
    unfold Tb.val Tb.var;rw[List.getD_eq_getElem?_getD,List.getElem?_map,List.getElem?_take,hn,if_pos hj,List.getElem?_eq_getElem hjl,List.getD_eq_getElem?_getD,List.getElem?_eq_getElem hjl];rfl
   have hrow:∀a:List Int,rowM (fun j=>((b2.vars.take b2.n).map (·.v)).getD j 0) a p.lo.length 0=rowM b2.val a p.lo.length 0:=fun a=>rowM_congr _ _ _ fun k _ hk=>hx k (by omega);have hfit:=g2.fits g3;refine .inl ⟨_,_,v,rfl,hxl,⟨fun j hj=>by rw[hx j hj];exact hfit.lo j hj,fun j hj=>by rw[hx j hj];exact hfit.hi j hj,fun i hi=>by rw[hrow];exact hfit.row i hi⟩,t1,hv,?_,?_⟩
   ·have e:=dot_exact _ _ hv;rw[t2,e,Rat.zero_add,←hrow];have:=rowM_list _ p.c 0 (fun j=>((b2.vars.take b2.n).map (·.v)).getD j 0) (by rw[hxl,h3];omega) (fun k hk=>by rw[Nat.zero_add]);rw[hxl]at this;exact this
   ·have e:=dot_exact _ _ hv;rw[e,Rat.zero_add];have:=rowM_list _ p.c 0 (fun j=>((b2.vars.take b2.n).map (·.v)).getD j 0) (by rw[hxl,h3];omega) (fun k hk=>by rw[Nat.zero_add]);rw[hxl]at this;exact this
def ev (M:Nat→Nat→Int)(v:Nat→Rat)(n i:Nat):Rat:=sumR (fun j=>((M i j:Int):Rat)*v j) n 0
theorem sumR_shift (g:Nat→Rat):∀(m j:Nat),sumR g m (j+1)=sumR (fun v=>g (v+1)) m j
 |0,_=>rfl
 |m+1,j=>by
  show g (j+1)+sumR g m (j+1+1)=g (j+1)+sumR (fun v=>g (v+1)) m (j+1);rw[sumR_shift g m (j+1)]
theorem sumR_first (g:Nat→Rat)(m:Nat):sumR g (m+1) 0=g 0+sumR (fun v=>g (v+1)) m 0:=by
 show g 0+sumR g m (0+1)=_;rw[sumR_shift]
theorem sumR_mul (c:Rat)(g:Nat→Rat):∀(m j:Nat),sumR (fun v=>c*g v) m j=c*sumR g m j
 |0,_=>by
  show(0:Rat)=c*0;rw[Rat.mul_zero]
 |m+1,j=>by
  show c*g j+sumR (fun v=>c*g v) m (j+1)=c*(g j+sumR g m (j+1));rw[sumR_mul c g m (j+1),Rat.mul_add]
theorem sumR_last (g:Nat→Rat):∀(m j:Nat),sumR g (m+1) j=sumR g m j+g (j+m)
 |0,j=>by
  show g j+0=0+g j;rw[Rat.add_zero,Rat.zero_add]
 |m+1,j=>by
  show g j+sumR g (m+1) (j+1)=g j+sumR g m (j+1)+g (j+(m+1));rw[sumR_last g m (j+1),show j+1+m=j+(m+1) by omega,Rat.add_assoc]
theorem sum_int {d:Int}{x:Nat→Rat}{c q:Nat→Int}:∀(m:Nat),(∀j,j<m→(d:Rat)*x j=((q j:Int):Rat))→(d:Rat)*sumR (fun j=>((c j:Int):Rat)*x j) m 0=((sumF (fun j=>c j*q j) m:Int):Rat)
 |0,_=>by
  show(d:Rat)*0=((0:Int):Rat);rw[Rat.mul_zero];rfl
 |m+1,h=>by
  rw[sumR_last,Nat.zero_add,Rat.mul_add,sum_int m (fun j hj=>h j (by omega))];show _=((sumF (fun j=>c j*q j) m+c m*q m:Int):Rat);rw[Rat.intCast_add,Rat.intCast_mul,←h m (by omega)];grind
theorem sumF_abs {f:Nat→Int}{B:Nat}:∀(n:Nat),(∀j,j<n→(f j).natAbs≤B)→(sumF f n).natAbs≤n*B
 |0,_=>by
  show(0:Int).natAbs≤_;exact Nat.zero_le _
 |n+1,h=>by
  have h1:=sumF_abs n fun j hj=>h j (by omega);have h2:=h n (by omega);show(sumF f n+f n).natAbs≤(n+1)*B;have h3:=Int.natAbs_add_le (sumF f n) (f n);rw[Nat.add_mul,Nat.one_mul];omega
def dN:Nat→Nat→Nat
 |0,_=>1
 |n+1,B=>B*dN n (2*(B*B))
def qN:Nat→Nat→Nat→Nat
 |0,_,_=>0
 |n+1,B,E=>dN n (2*(B*B))*E+(n*B+B)*qN n (2*(B*B)) (2*(B*E))
def skipN (r i:Nat):Nat:=if i<r then i else i+1
theorem skip_lt {r i n:Nat}(h:i<n):skipN r i<n+1:=by
 unfold skipN;split<;>omega
theorem skip_all {r i n:Nat}(hr:r<n+1)(hi:i<n+1)(hne:i≠r):∃i',i'<n∧skipN r i'=i:=by
 unfold skipN;by_cases h:i<r
 ·exact⟨i,by omega,if_pos h⟩
 ·exact⟨i-1,by omega,by rw[if_neg (by omega)];omega⟩
def elimM (M:Nat→Nat→Int)(r:Nat)(i j:Nat):Int:=M r 0*M (skipN r i) (j+1)-M (skipN r i) 0*M r (j+1)
def elimE (M:Nat→Nat→Int)(e:Nat→Int)(r:Nat)(i:Nat):Int:=M r 0*e (skipN r i)-M (skipN r i) 0*e r
theorem sumR_lin (a b:Rat)(g h:Nat→Rat)(m j:Nat):sumR (fun v=>a*g v-b*h v) m j=a*sumR g m j-b*sumR h m j:=by
 have e1:=sumR_plus (fun v=>a*g v) (fun v=>(-b)*h v) m j;rw[sumR_mul,sumR_mul]at e1;rw[sumR_congr m j (h:=fun v=>a*g v+(-b)*h v) (fun v _ _=>by grind),e1];grind
theorem ev_elim (M:Nat→Nat→Int)(r i n:Nat)(v:Nat→Rat):ev (elimM M r) (fun j=>v (j+1)) n i=((M r 0:Int):Rat)*ev M v (n+1) (skipN r i)-((M (skipN r i) 0:Int):Rat)*ev M v (n+1) r:=by
 unfold ev;rw[sumR_first,sumR_first];rw[sumR_congr n 0 (h:=fun j=>((M r 0:Int):Rat)*(((M (skipN r i) (j+1):Int):Rat)*v (j+1))-((M (skipN r i) 0:Int):Rat)*(((M r (j+1):Int):Rat)*v (j+1))) (fun j _ _=>by
  unfold elimM;rw[Rat.intCast_sub,Rat.intCast_mul,Rat.intCast_mul];grind),sumR_lin]
 grind
def Inj (n:Nat)(M:Nat→Nat→Int):Prop:=∀v:Nat→Rat,(∀i,i<n→ev M v n i=0)→∀j,j<n→v j=0
theorem abs_two {a b c d:Int}{B C:Nat}(h1:a.natAbs≤B)(h2:b.natAbs≤C)(h3:c.natAbs≤B)(h4:d.natAbs≤C):(a*b-c*d).natAbs≤2*(B*C):=by
 have e1:(a*b).natAbs≤B*C:=by rw[Int.natAbs_mul];exact Nat.mul_le_mul h1 h2
 have e2:(c*d).natAbs≤B*C:=by rw[Int.natAbs_mul];exact Nat.mul_le_mul h3 h4
 omega
theorem rat_cast_ne {a:Int}(h:a≠0):((a:Int):Rat)≠0:=fun e=>h (Rat.intCast_inj.1 e)
theorem elim:∀(n:Nat)(M:Nat→Nat→Int)(e:Nat→Int)(x:Nat→Rat)(B E:Nat),(∀i j,i<n→j<n→(M i j).natAbs≤B)→(∀i,i<n→(e i).natAbs≤E)→Inj n M→(∀i,i<n→ev M x n i=((e i:Int):Rat))→∃d:Int,d≠0∧d.natAbs≤dN n B∧∃q:Nat→Int,∀j,j<n→(d:Rat)*x j=((q j:Int):Rat)∧(q j).natAbs≤qN n B E
 |0,M,e,x,B,E,_,_,_,_=>⟨1,by decide,by show(1:Int).natAbs≤1;decide,fun _=>0,fun j hj=>absurd hj (Nat.not_lt_zero _)⟩
 |n+1,M,e,x,B,E,hB,hE,hI,hx=>by
  have hr:∃r,r<n+1∧M r 0≠0:=by
   apply Classical.byContradiction;intro hno;have hz:∀r,r<n+1→M r 0=0:=fun r hr=>Classical.byContradiction fun h=>hno ⟨r,hr,h⟩;have:=hI (fun j=>if j=0 then 1 else 0) (fun i hi=>by
    unfold ev;rw[sumR_first,hz i hi,sumR_zero n 0 (fun v _ _=>by
     show _*(if v+1=0 then(1:Rat) else 0)=0;rw[if_neg (by omega),Rat.mul_zero])]
    show((0:Int):Rat)*_+0=0;rw[show((0:Int):Rat)=0 from rfl,Rat.zero_mul,Rat.zero_add]) 0 (by omega)
   exact absurd this (by decide)
  obtain⟨r,hr,ha⟩:=hr;have haq:=rat_cast_ne ha;have hI2:Inj n (elimM M r):=fun v hv j hj=>by
   obtain⟨v0,hv0⟩:∃v0:Rat,((M r 0:Int):Rat)*v0+sumR (fun j=>((M r (j+1):Int):Rat)*v j) n 0=0:=⟨-(sumR (fun j=>((M r (j+1):Int):Rat)*v j) n 0)/((M r 0:Int):Rat),by grind⟩;have hw:=hI (fun j=>match j with|0=>v0|j+1=>v j) (fun i hi=>by
    have er:ev M (fun j=>match j with|0=>v0|j+1=>v j) (n+1) r=0:=by
     unfold ev;rw[sumR_first];exact hv0
    by_cases e:i=r
    ·rw[e];exact er
    ·obtain⟨i',hi',rfl⟩:=skip_all hr hi e;have h1:=ev_elim M r i' n (fun j=>match j with|0=>v0|j+1=>v j);have h2:ev (elimM M r) v n i'=0:=hv i' hi';have h3:ev (elimM M r) (fun j=>(fun j=>match j with|0=>v0|j+1=>v j) (j+1)) n i'=ev (elimM M r) v n i':=rfl;rw[h3,h2,er]at h1;grind) (j+1) (by omega)
   exact hw
  obtain⟨d',h1,h2,q',h3⟩:=elim n (elimM M r) (elimE M e r) (fun j=>x (j+1)) (2*(B*B)) (2*(B*E))
   (fun i j hi hj=>abs_two (hB r 0 hr (by omega)) (hB _ _ (skip_lt hi) (by omega)) (hB _ 0 (skip_lt hi) (by omega)) (hB r _ hr (by omega)))
   (fun i hi=>abs_two (hB r 0 hr (by omega)) (hE _ (skip_lt hi)) (hB _ 0 (skip_lt hi) (by omega)) (hE r hr)) hI2
   (fun i hi=>by
    rw[ev_elim,hx _ (skip_lt hi),hx r hr];unfold elimE;rw[Rat.intCast_sub,Rat.intCast_mul,Rat.intCast_mul])
  refine⟨M r 0*d',Int.mul_ne_zero ha h1,?_,fun j=>match j with|0=>d'*e r-sumF (fun j=>M r (j+1)*q' j) n|j+1=>M r 0*q' j,fun j hj=> ?_⟩
  ·rw[Int.natAbs_mul];exact Nat.mul_le_mul (hB r 0 hr (by omega)) h2
  ·have hq:∀j,j<n→(q' j).natAbs≤qN n (2*(B*B)) (2*(B*E)):=fun j hj=>(h3 j hj).2;cases j with
   |zero=>
    refine⟨?_,?_⟩
    ·have hs:=sum_int (d:=d') (x:=fun j=>x (j+1)) (c:=fun j=>M r (j+1)) (q:=q') n fun j hj=>(h3 j hj).1;have hxr:=hx r hr;unfold ev at hxr;rw[sumR_first]at hxr;show((M r 0*d':Int):Rat)*x 0=((d'*e r-sumF (fun j=>M r (j+1)*q' j) n:Int):Rat);rw[Rat.intCast_mul,Rat.intCast_sub,Rat.intCast_mul,←hs,←hxr];grind
    ·show(d'*e r-sumF (fun j=>M r (j+1)*q' j) n).natAbs≤dN n (2*(B*B))*E+(n*B+B)*qN n (2*(B*B)) (2*(B*E));have e1:(d'*e r).natAbs≤dN n (2*(B*B))*E:=by rw[Int.natAbs_mul];exact Nat.mul_le_mul h2 (hE r hr)
     have e2:=sumF_abs (f:=fun j=>M r (j+1)*q' j) (B:=B*qN n (2*(B*B)) (2*(B*E))) n fun j hj=>by
      rw[Int.natAbs_mul];exact Nat.mul_le_mul (hB r _ hr (by omega)) (hq j hj)
     rw[Nat.add_mul,Nat.mul_assoc];omega
   |succ j=>
    obtain⟨h4,h5⟩:=h3 j (by omega);refine⟨?_,?_⟩
    ·show((M r 0*d':Int):Rat)*x (j+1)=((M r 0*q' j:Int):Rat);rw[Rat.intCast_mul,Rat.intCast_mul,←h4];grind
    ·show(M r 0*q' j).natAbs≤dN n (2*(B*B))*E+(n*B+B)*qN n (2*(B*B)) (2*(B*E));have e1:(M r 0*q' j).natAbs≤B*qN n (2*(B*B)) (2*(B*E)):=by rw[Int.natAbs_mul];exact Nat.mul_le_mul (hB r 0 hr (by omega)) h5
     rw[Nat.add_mul];omega
theorem dN_four:∀n,n≤4→dN n 1048576≤2^311
 |0,_=>by decide+kernel
 |1,_=>by decide+kernel
 |2,_=>by decide+kernel
 |3,_=>by decide+kernel
 |4,_=>by decide+kernel
 |n+5,h=>by omega
theorem qN_four:∀n,n≤4→qN n 1048576 1099511627776≤2^340
 |0,_=>by decide+kernel
 |1,_=>by decide+kernel
 |2,_=>by decide+kernel
 |3,_=>by decide+kernel
 |4,_=>by decide+kernel
 |n+5,h=>by omega
structure Bnds (X3 X G Y:Nat):Prop where
 dn:∀n,n≤4→dN n 1048576≤X3
 qn:∀n,n≤4→qN n 1048576 1099511627776≤X
 l1:X3<X
 l2:X*1048576*8+X3*1048576<G
 l3:G*1048576*8<Y
 l4:X*1099511627776*8<Y
 few:Y<4294967296^64
end Go.Proofs.YtpnmcacndjkfaaaGreat

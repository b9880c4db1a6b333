/-
  Joined texts: Eg, Eh, Fd, Fc.
-/
import Derived.Test.YtpnmcacndjkfaaaGreatEf
import Derived.Test.YtpnmcacndjkfaaaGreatEc
set_option linter.unusedSimpArgs false
set_option linter.unusedVariables false
namespace Go.Proofs.YtpnmcacndjkfaaaGreat
open Go.RowKit Num
theorem rise_false {x:Vr} (h:x.mayRise=false):∃u,x.hi=some u∧u≤x.v:=by
 unfold Vr.mayRise at h;cases hh:x.hi with
 |none=>
  rw[hh]at h;cases h
 |some u=>
  rw[hh]at h;exact ⟨u,rfl,Rat.not_lt.1 (of_decide_eq_false h)⟩
theorem fall_false {x:Vr} (h:x.mayFall=false):∃l,x.lo=some l∧x.v≤l:=by
 unfold Vr.mayFall at h;cases hh:x.lo with
 |none=>
  rw[hh]at h;cases h
 |some u=>
  rw[hh]at h;exact ⟨u,rfl,Rat.not_lt.1 (of_decide_eq_false h)⟩
theorem Good.slack {p:Pg} {b:Tb} (h:Good p b) {z:Nat→Rat} {v:Nat} (hv:v<b.vars.length) (hin:Inn (b.var v)) (h1:z v<0→(b.var v).mayRise=false) (h2:0<z v→(b.var v).mayFall=false):z v*b.val v=z v*endE p z v:=by
 rw[inn_iff]at hin;rw[h.nv]at hv;have ev:(b.var v).v=b.val v:=rfl;by_cases g1:z v<0
 ·obtain ⟨u,hu,hle⟩:=rise_false (h1 g1);have h3:=hin.2 u hu;rw[ev]at hle h3;have e:b.val v=endE p z v:=by
   unfold endE;by_cases hj:v<p.lo.length
   ·rw[if_pos hj,if_pos g1];have:=(h.elo v hj).2;rw[hu]at this;cases this;grind
   ·rw[if_neg hj];have:=(h.erow (v-p.lo.length) (by omega)).2;rw[show p.lo.length+(v-p.lo.length)=v by omega,hu]at this;cases this;grind
  rw[e]
 ·by_cases g2:0<z v
  ·obtain ⟨u,hu,hle⟩:=fall_false (h2 g2);have h3:=hin.1 u hu;rw[ev]at hle h3;have e:b.val v=endE p z v:=by
    unfold endE;by_cases hj:v<p.lo.length
    ·rw[if_pos hj,if_neg g1];have:=(h.elo v hj).1;rw[hu]at this;cases this;grind
    ·have:=(h.erow (v-p.lo.length) (by omega)).1;rw[show p.lo.length+(v-p.lo.length)=v by omega,hu]at this;cases this
   rw[e]
  ·have:z v=0:=by grind
   rw[this,Rat.zero_mul,Rat.zero_mul]
theorem Good.row_fall {p:Pg} {b:Tb} (h:Good p b) {i:Nat} (hi:i<p.a.length):(b.var (p.lo.length+i)).mayFall=true:=by
 unfold Vr.mayFall;rw[(h.erow i hi).1]
theorem Good.nodup {p:Pg} {b:Tb} (h:Good p b):b.free.Nodup:=nodup_of h.df
theorem Good.lt {p:Pg} {b:Tb} (h:Good p b):∀v∈b.free,v<p.lo.length+p.a.length:=fun v hv=>by
 obtain ⟨k,hk,rfl⟩:=mem_iff_at.1 hv;rw[←h.nv];exact h.wf.fv k hk
theorem Good.out {p:Pg} {b:Tb} (h:Good p b) {i:Nat} (hi:i<b.basic.length):b.B i∉b.free:=fun hv=>by
 obtain ⟨k,hk,e⟩:=mem_iff_at.1 hv;exact h.dd i k hi hk e.symm
theorem zeros_at {b:Tb} {i:Nat}:(zerosT b).getD i 0=0:=by
 unfold zerosT;rw[List.getD_eq_getElem?_getD,List.getElem?_replicate];split<;>rfl
theorem Good.zeros_len {p:Pg} {b:Tb} (h:Good p b):(zerosT b).length=p.a.length:=by
 unfold zerosT;rw[List.length_replicate,h.nv,h.n];omega
theorem at_nonneg {y:List Rat} (h:∀i,i<y.length→0≤y.getD i 0):∀q∈y,0≤q:=fun q hq=>by
 obtain ⟨i,hi,rfl⟩:=List.getElem_of_mem hq;have:=h i hi;rw[List.getD_eq_getElem?_getD,List.getElem?_eq_getElem hi]at this;exact this
structure Proof_ (p:Pg) (c:Option (List Int)) (y:List Rat):Prop where
 len:y.length=p.a.length
 pos:∀q∈y,0≤q
theorem Good.optimal {p:Pg} {b:Tb} (h:Good p b) (ha:AllIn b) (hc:cheapT b=none) (hh:p.hi.length=p.lo.length) (hb:p.a.length=p.b.length):Proof_ p (some p.c) (dualGo b.n (zerosT b) b.cost b.free)∧boundQ p (dualGo b.n (zerosT b) b.cost b.free) (some p.c)=rowM b.val p.c p.lo.length 0:=by
 have hch:=cheap_none h.wf.fc hc;have hzl:=h.zeros_len;obtain ⟨d1,d2⟩:=dual_at b.n b.cost b.free (zerosT b) h.nodup (fun v hv=>by rw[hzl,h.n];exact h.lt v hv) h.wf.fc;rw[hzl]at d1 d2;generalize dualGo b.n (zerosT b) b.cost b.free=y at*;have hz:∀k,k<b.free.length→coef b.cost b.free (b.F k)=b.cost.getD k 0:=fun k hk=>coef_at _ _ _ h.nodup h.wf.fc hk;have sl:∀k,k<b.free.length→(coef b.cost b.free (b.F k)<0→(b.var (b.F k)).mayRise=false)∧(0<coef b.cost b.free (b.F k)→(b.var (b.F k)).mayFall=false):=fun k hk=>by
  rw[hz k hk];have:=hch k hk;rw[Bool.or_eq_false_iff]at this;obtain ⟨t1,t2⟩:=this;refine ⟨fun g=> ?_,fun g=> ?_⟩
  ·unfold cheapB at t1;rw[decide_eq_true g,Bool.true_and]at t1;exact t1
  ·rw[decide_eq_true g,Bool.true_and]at t2;exact t2
 have hdual:Dual p (some p.c) (coef b.cost b.free) y:=by
  refine ⟨d1,fun i hi=> ?_,fun ξ hs=> ?_⟩
  ·rw[d2 i hi,h.n];split
   ·rfl
   ·rename_i hn;rw[zeros_at,coef_out _ _ _ hn];grind
  ·rw[←lin_coef ξ _ b.cost b.free h.nodup h.lt];exact (h.cost ξ hs).symm
 refine ⟨⟨d1,at_nonneg fun i hi=> ?_⟩,?_⟩
 ·rw[d1]at hi;rw[hdual.y i hi];by_cases hm:p.lo.length+i∈b.free
  ·obtain ⟨k,hk,e⟩:=mem_iff_at.1 hm;have:=(sl k hk).2;rw[show b.F k=p.lo.length+i from e,h.row_fall hi]at this;have:¬0<coef b.cost b.free (p.lo.length+i):=fun g=>by cases this g
   grind
  ·rw[coef_out _ _ _ hm];grind
 ·rw[hdual.bound hh hb];have hv:=h.cost b.val h.val;rw[hv,lin_coef b.val _ b.cost b.free h.nodup h.lt];refine sumR_congr _ _ fun v _ hv=> ?_;have hvl:v<b.vars.length:=by rw[h.nv];omega
  rcases h.all v hvl with ⟨i,hi,rfl⟩|⟨k,hk,rfl⟩
  ·rw[coef_out _ _ _ (h.out hi),Rat.zero_mul,Rat.zero_mul]
  ·exact (h.slack hvl (h.inn k hk) (sl k hk).1 (sl k hk).2).symm
theorem coef_map {f:Rat→Rat} (h0:f 0=0):∀(l:List Rat) (fr:List Nat) (v:Nat),coef (l.map f) fr v=f (coef l fr v)
 |[],fr,v=>h0.symm
 |a::l,[],v=>h0.symm
 |a::l,k::fr,v=>by
  show (if v=k then f a else coef (l.map f) fr v)=f (if v=k then a else coef l fr v);split
  ·rfl
  ·exact coef_map h0 l fr v
theorem Good.infeasible {p:Pg} {b:Tb} {i:Nat} (h:Good p b) (hbe:beyondT b=some i) (hhe:helpsT b i (b.var (b.B i)).below=none) (hh:p.hi.length=p.lo.length) (hb:p.a.length=p.b.length):Proof_ p none (proofT b i)∧0<boundQ p (proofT b i) none:=by
 obtain ⟨s1,s2,_⟩:=beyond_some hbe;have hit:i<b.t.length:=by rw[←h.wf.bt];exact s1
 have hno:=helps_none (h.wf.ft i hit) hhe;have s2':((b.var (b.B i)).below||(b.var (b.B i)).above)=true:=s2;have hvB:b.B i<b.vars.length:=h.wf.bv i s1;have hzl:=h.zeros_len;generalize hup:(b.var (b.B i)).below=up at*;have hpr:proofT b i=if b.B i<b.n then proofGo b.n up (zerosT b) (b.t.getD i []) b.free else (proofGo b.n up (zerosT b) (b.t.getD i []) b.free).set (b.B i-b.n) 1:=by
  rw[←hup];rfl
 have hlow:up=true→b.B i<p.lo.length:=fun e=>by
  rw[e]at hup;obtain ⟨l,hl,_⟩:=below_iff.1 hup;apply Nat.lt_of_not_le;intro hge;have:=(h.erow (b.B i-p.lo.length) (by rw[h.nv]at hvB;omega)).1;rw[show p.lo.length+(b.B i-p.lo.length)=b.B i by omega,hl]at this;cases this
 rw[proof_dual]at hpr;have e0:(if up then-(0:Rat) else 0)=0:=by cases up<;>grind
 obtain ⟨d1,d2⟩:=dual_at b.n ((b.t.getD i []).map fun a=>if up then-a else a) b.free (zerosT b) h.nodup (fun v hv=>by rw[hzl,h.n];exact h.lt v hv) (by rw[List.length_map];exact h.wf.ft i hit);rw[hzl]at d1 d2;generalize dualGo b.n (zerosT b) ((b.t.getD i []).map fun a=>if up then-a else a) b.free=y0 at*;rw[hpr];clear hpr;rw[h.n]at d2⊢;have hco:∀v,coef ((b.t.getD i []).map fun a=>if up then-a else a) b.free v=if up then-coef (b.t.getD i []) b.free v else coef (b.t.getD i []) b.free v:=fun v=>coef_map (f:=fun a=>if up then-a else a) e0 _ _ _
 have hat:∀k,k<b.free.length→coef (b.t.getD i []) b.free (b.F k)=(b.t.getD i []).getD k 0:=fun k hk=>coef_at _ _ _ h.nodup (h.wf.ft i hit) hk;obtain ⟨y,hy⟩:∃y,(if b.B i<p.lo.length then y0 else y0.set (b.B i-p.lo.length) 1)=y:=⟨_,rfl⟩;rw[hy];have yl:y.length=p.a.length:=by
  rw[←hy];split
  ·exact d1
  ·rw[List.length_set];exact d1
 obtain ⟨z,hz⟩:∃z:Nat→Rat,z=fun v=>if up then (if v=b.B i then 1 else 0)-coef (b.t.getD i []) b.free v else coef (b.t.getD i []) b.free v-(if v=b.B i then 1 else 0):=⟨_,rfl⟩
 have hzB:z (b.B i)=if up then 1 else-1:=by
  rw[hz];simp only[if_pos,coef_out _ _ _ (h.out s1)];cases up<;>simp<;>grind
 have hzF:∀k,k<b.free.length→z (b.F k)=if up then-((b.t.getD i []).getD k 0) else (b.t.getD i []).getD k 0:=fun k hk=>by
  rw[hz];have hne:¬b.F k=b.B i:=fun e=>h.dd i k s1 hk e.symm;simp only[if_neg hne,hat k hk];cases up<;>simp<;>grind
 have hzO:∀v,v∉b.free→v≠b.B i→z v=0:=fun v hv hne=>by
  rw[hz];simp only[if_neg hne,coef_out _ _ _ hv];cases up<;>simp<;>grind
 have sl:∀k,k<b.free.length→(z (b.F k)<0→(b.var (b.F k)).mayRise=false)∧(0<z (b.F k)→(b.var (b.F k)).mayFall=false):=fun k hk=>by
  rw[hzF k hk];have:=hno k hk;unfold helpB at this;have e1:b.free.getD k 0=b.F k:=rfl;rw[e1]at this;generalize (b.t.getD i []).getD k 0=a at*;cases up with
  |true=>
   simp only[if_true,Bool.or_eq_false_iff]at this⊢;refine ⟨fun g=> ?_,fun g=> ?_⟩
   ·rw[decide_eq_true (show 0<a by grind),Bool.true_and]at this;exact this.1
   ·rw[decide_eq_true (show a<0 by grind),Bool.true_and]at this;exact this.2
  |false=>
   simp only[Bool.false_eq_true,if_false,Bool.or_eq_false_iff]at this⊢;refine ⟨fun g=> ?_,fun g=> ?_⟩
   ·rw[decide_eq_true (show a<0 by grind),Bool.true_and]at this;exact this.2
   ·rw[decide_eq_true (show 0<a by grind),Bool.true_and]at this;exact this.1
 have hyz:∀r,r<p.a.length→y.getD r 0= -z (p.lo.length+r):=fun r hr=>by
  rw[←hy];by_cases hB:p.lo.length+r=b.B i
  ·have hup2:up=false:=by
    cases hu:up with
    |false=>rfl
    |true=>have:=hlow hu;omega
   rw[hB,hzB,if_neg (show ¬b.B i<p.lo.length by omega),set_at (by omega),if_pos (show r=b.B i-p.lo.length by omega),hup2];simp
  ·have e1:(if b.B i<p.lo.length then y0 else y0.set (b.B i-p.lo.length) 1).getD r 0=y0.getD r 0:=by
    split
    ·rfl
    ·rw[set_at (by rw[h.nv]at hvB;omega),if_neg (show ¬r=b.B i-p.lo.length by omega)]
   rw[e1,d2 r hr];by_cases hm:p.lo.length+r∈b.free
   ·rw[if_pos hm,hco,hz];simp only[if_neg hB];cases up<;>simp<;>grind
   ·rw[if_neg hm,zeros_at,hzO _ hm hB];grind
 have hdual:Dual p none z y:=by
  refine ⟨yl,hyz,fun ξ hs=> ?_⟩;have h1:=(h.eq ξ).1 hs i hit;rw[lin_coef ξ _ (b.t.getD i []) b.free h.nodup h.lt]at h1;have h2:=sumR_one (g:=fun v=>if v=b.B i then ξ (b.B i) else 0) (p.lo.length+p.a.length) 0 (b.B i) (Nat.zero_le _) (by rw[h.nv]at hvB;omega) (fun v hv=>if_neg hv);simp only[if_pos]at h2;have h3:=sumR_plus (fun v=>z v*ξ v) (fun v=>if up then coef (b.t.getD i []) b.free v*ξ v else if v=b.B i then ξ (b.B i) else 0) (p.lo.length+p.a.length) 0;have h4:sumR (fun v=>z v*ξ v+if up then coef (b.t.getD i []) b.free v*ξ v else if v=b.B i then ξ (b.B i) else 0) (p.lo.length+p.a.length) 0=sumR (fun v=>if up then (if v=b.B i then ξ (b.B i) else 0) else coef (b.t.getD i []) b.free v*ξ v) (p.lo.length+p.a.length) 0:=sumR_congr _ _ fun v _ _=>by
   rw[hz];cases up with
   |true=>
    simp only[if_true];by_cases e:v=b.B i
    ·subst e;simp only[if_true];grind
    ·simp only[if_neg e];grind
   |false=>
    simp only[Bool.false_eq_true,if_false];by_cases e:v=b.B i
    ·subst e;simp only[if_true];grind
    ·simp only[if_neg e];grind
  show _=(0:Rat);rw[h4]at h3;cases up with
  |true=>
   simp only[if_true]at h3;rw[h2,←h1]at h3;grind
  |false=>
   simp only[Bool.false_eq_true,if_false]at h3;rw[h2,←h1]at h3;grind
 refine ⟨⟨yl,at_nonneg fun r hr=> ?_⟩,?_⟩
 ·rw[yl]at hr;rw[hyz r hr];by_cases hB:p.lo.length+r=b.B i
  ·have hup2:up=false:=by
    cases hu:up with
    |false=>rfl
    |true=>have:=hlow hu;omega
   rw[hB,hzB,hup2];simp;grind
  ·by_cases hm:p.lo.length+r∈b.free
   ·obtain ⟨k,hk,e⟩:=mem_iff_at.1 hm;have:=(sl k hk).2;rw[show b.F k=p.lo.length+r from e,h.row_fall hr]at this;have:¬0<z (p.lo.length+r):=fun g=>by cases this g
    grind
   ·rw[hzO _ hm hB];grind
 ·rw[hdual.bound hh hb];have h0:=hdual.sat b.val h.val;have h0':sumR (fun v=>z v*b.val v) (p.lo.length+p.a.length) 0=0:=h0;rw[←h0'];refine sumR_lt _ _ (b.B i) (Nat.zero_le _) (by rw[h.nv]at hvB;omega) (fun v _ hv hne=> ?_) ?_
  ·have hvl:v<b.vars.length:=by rw[h.nv];omega
   rcases h.all v hvl with ⟨r,hr,rfl⟩|⟨k,hk,rfl⟩
   ·rw[hzO _ (h.out hr) hne,Rat.zero_mul,Rat.zero_mul]
   ·exact h.slack hvl (h.inn k hk) (sl k hk).1 (sl k hk).2
  ·rw[hzB];unfold endE;rw[hzB];cases hu:up with
   |true=>
    have hlt:=hlow hu;rw[hu]at hup;obtain ⟨l,hl,hlv⟩:=below_iff.1 hup;have e1:=(h.elo _ hlt).1;rw[hl]at e1;cases e1;have e2:(b.var (b.B i)).v=b.val (b.B i):=rfl;rw[e2]at hlv;rw[if_pos hlt];simp only[if_true];rw[if_neg (by decide)];grind
   |false=>
    rw[hu]at s2';rw[Bool.false_or]at s2';obtain ⟨u,hu1,hu2⟩:=above_iff.1 s2';have e2:(b.var (b.B i)).v=b.val (b.B i):=rfl;rw[e2]at hu2;simp only[Bool.false_eq_true,if_false];by_cases hlt:b.B i<p.lo.length
    ·have e1:=(h.elo _ hlt).2;rw[hu1]at e1;cases e1;rw[if_pos hlt,if_pos (by decide)];grind
    ·have e1:=(h.erow (b.B i-p.lo.length) (by rw[h.nv]at hvB;omega)).2;rw[show p.lo.length+(b.B i-p.lo.length)=b.B i by omega,hu1]at e1;cases e1;rw[if_neg hlt];grind
theorem Good.fits {p:Pg} {b:Tb} (h:Good p b) (ha:AllIn b):Fits p b.val:=by
 refine ⟨fun j hj=> ?_,fun j hj=> ?_,fun i hi=> ?_⟩
 ·exact (inn_iff.1 (ha j (by rw[h.nv];omega))).1 _ (h.elo j hj).1
 ·exact (inn_iff.1 (ha j (by rw[h.nv];omega))).2 _ (h.elo j hj).2
 ·rw[←h.val i hi];exact (inn_iff.1 (ha (p.lo.length+i) (by rw[h.nv];omega))).2 _ (h.erow i hi).2
end Go.Proofs.YtpnmcacndjkfaaaGreat
set_option linter.unusedSimpArgs false
set_option linter.unusedVariables false
namespace Go.Proofs.YtpnmcacndjkfaaaGreat
open Go.RowKit Num
def sumF (f:Nat→Int):Nat→Int
 |0=>0
 |n+1=>sumF f n+f n
theorem rowM_snoc (ξ:Nat→Rat) (a:List Int):∀(m j:Nat),rowM ξ a (m+1) j=rowM ξ a m j+((a.getD (j+m) 0:Int):Rat)*ξ (j+m)
 |0,j=>by
  show ((a.getD j 0:Int):Rat)*ξ j+0=0+((a.getD j 0:Int):Rat)*ξ j;rw[Rat.add_zero,Rat.zero_add]
 |m+1,j=>by
  show ((a.getD j 0:Int):Rat)*ξ j+rowM ξ a (m+1) (j+1)=((a.getD j 0:Int):Rat)*ξ j+rowM ξ a m (j+1)+_;rw[rowM_snoc ξ a m (j+1),show j+1+m=j+(m+1) by omega,Rat.add_assoc]
theorem rowM_int (a:List Int) (x:Nat→Int):∀m:Nat,rowM (fun j=>((x j:Int):Rat)) a m 0=((sumF (fun j=>a.getD j 0*x j) m:Int):Rat)
 |0=>rfl
 |m+1=>by
  rw[rowM_snoc,rowM_int a x m,Nat.zero_add];show _=((sumF _ m+a.getD m 0*x m:Int):Rat);rw[Rat.intCast_add,Rat.intCast_mul]
theorem sumF_bound {f:Nat→Int} {B:Int}:∀(n:Nat),(∀j,j<n→-B≤f j∧f j≤B)→-(B*n)≤sumF f n∧sumF f n≤B*n
 |0,_=>by
  show-(B*0)≤0∧0≤B*0;omega
 |n+1,h=>by
  obtain ⟨h1,h2⟩:=sumF_bound n fun j hj=>h j (by omega);obtain ⟨h3,h4⟩:=h n (by omega);show-(B*((n+1:Nat):Int))≤sumF f n+f n∧sumF f n+f n≤B*((n+1:Nat):Int);have e:B*((n+1:Nat):Int)=B*(n:Int)+B:=by
   rw[Int.natCast_add,Int.mul_add];simp
  omega
theorem prod_bound {a b M:Int} (h0:0≤M) (h1: -M≤a) (h2:a≤M) (h3: -M≤b) (h4:b≤M): -(M*M)≤a*b∧a*b≤M*M:=by
 have e1:0≤(M-a)*(M+b):=Int.mul_nonneg (by omega) (by omega);have e2:0≤(M+a)*(M-b):=Int.mul_nonneg (by omega) (by omega);have e3:0≤(M-a)*(M-b):=Int.mul_nonneg (by omega) (by omega);have e4:0≤(M+a)*(M+b):=Int.mul_nonneg (by omega) (by omega);constructor<;>grind
structure FitsZ (p:Pg) (x:List Int):Prop where
 len:x.length=p.lo.length
 lo:∀j,j<p.lo.length→p.lo.getD j 0≤x.getD j 0
 hi:∀j,j<p.lo.length→x.getD j 0≤p.hi.getD j 0
 row:∀i,i<p.a.length→sumF (fun j=>(p.a.getD i []).getD j 0*x.getD j 0) p.lo.length≤p.b.getD i 0
theorem FitsZ.fits {p:Pg} {x:List Int} (h:FitsZ p x):Fits p fun j=>((x.getD j 0:Int):Rat):=by
 refine ⟨fun j hj=>Rat.intCast_le_intCast.2 (h.lo j hj),fun j hj=>Rat.intCast_le_intCast.2 (h.hi j hj),fun i hi=> ?_⟩;rw[rowM_int];exact Rat.intCast_le_intCast.2 (h.row i hi)
def costZ (p:Pg) (x:List Int):Int:=sumF (fun j=>p.c.getD j 0*x.getD j 0) p.lo.length
theorem rowM_list:∀(x:List Rat) (c:List Int) (j:Nat) (ξ:Nat→Rat),x.length+j=c.length→(∀k,k<x.length→ξ (j+k)=x.getD k 0)→rowM ξ c x.length j=dotQ x (c.drop j)
 |[],c,j,ξ,_,_=>rfl
 |q::x,c,j,ξ,hl,h=>by
  rw[List.length_cons]at hl;rw[drop_at (z:=0) (by omega)];have h0:=h 0 (by simp);have h1:=rowM_list x c (j+1) ξ (by omega) fun k hk=>by
   rw[show j+1+k=j+(k+1) by omega];exact h (k+1) (by simpa using hk)
  show ((c.getD j 0:Int):Rat)*ξ j+rowM ξ c x.length (j+1)=q*((c.getD j 0:Int):Rat)+dotQ x (c.drop (j+1));have h0':ξ j=q:=h0;rw[h1,h0',Rat.mul_comm]
theorem solve_cases {p:Pg} {P:Nat} (hr:rightPg p=true):(∃(x:List Rat) (y:List Rat) (v:Rat),solveT p P=⟨1,x,some v,y⟩∧x.length=p.lo.length∧Fits p (fun j=>x.getD j 0)∧Proof_ p (some p.c) y∧dotO 0 x p.c=some v∧boundQ p y (some p.c)=v∧rowM (fun j=>x.getD j 0) p.c p.lo.length 0=v)∨(∃y:List Rat,solveT p P=⟨2,[],none,y⟩∧Proof_ p none y∧0<boundQ p y none)∨solveT p P=⟨3,[],none,[]⟩:=by
 have hr':=hr;rw[rightPg]at hr';simp only[Bool.and_eq_true,decide_eq_true_eq]at hr';obtain ⟨_,h2,h3,h4,_,_,_,_,_,h10,_⟩:=hr';unfold solveT;cases hA:(beginT p P).bind (answerT p) with
 |none=>exact .inr (.inr rfl)
 |some a=>
  obtain ⟨b,hb,ha⟩:=Option.bind_eq_some_iff.1 hA;have hg:=begin_good hr hb;unfold answerT at ha;obtain ⟨r,hf,ha⟩:=Option.bind_eq_some_iff.1 ha;have hfe:=feas_good (endsL_at h10 h2) _ _ hg hf;cases ho:r.2 with
  |some i=>
   rw[ho]at ha;cases ha;obtain ⟨s1,s2⟩:=hfe.some i ho;obtain ⟨t1,t2⟩:=hfe.good.infeasible s1 s2 h2 h4;exact .inr (.inl ⟨_,rfl,t1,t2⟩)
  |none=>
   rw[ho]at ha;obtain ⟨b2,hb2,ha⟩:=Option.bind_eq_some_iff.1 ha;obtain ⟨v,hv,rfl⟩:=Option.map_eq_some_iff.1 ha;obtain ⟨g2,g3,g4⟩:=opt_good _ _ hfe.good (fun v hv=>hfe.good.all_in (hfe.none ho) hv) hb2;obtain ⟨t1,t2⟩:=g2.optimal g3 g4 h2 h4;have hn:=g2.n;have hnv:=g2.nv;have hxl:((b2.vars.take b2.n).map (·.v)).length=p.lo.length:=by rw[List.length_map,List.length_take,hn,hnv];omega
   have hx:∀j,j<p.lo.length→((b2.vars.take b2.n).map (·.v)).getD j 0=b2.val j:=fun j hj=>by
    have hjl:j<b2.vars.length:=by omega
    unfold Tb.val Tb.var;rw[List.getD_eq_getElem?_getD,List.getElem?_map,List.getElem?_take,hn,if_pos hj,List.getElem?_eq_getElem hjl,List.getD_eq_getElem?_getD,List.getElem?_eq_getElem hjl];rfl
   have hrow:∀a:List Int,rowM (fun j=>((b2.vars.take b2.n).map (·.v)).getD j 0) a p.lo.length 0=rowM b2.val a p.lo.length 0:=fun a=>rowM_congr _ _ _ fun k _ hk=>hx k (by omega);have hfit:=g2.fits g3;refine .inl ⟨_,_,v,rfl,hxl,⟨fun j hj=>by rw[hx j hj];exact hfit.lo j hj,fun j hj=>by rw[hx j hj];exact hfit.hi j hj,fun i hi=>by rw[hrow];exact hfit.row i hi⟩,t1,hv,?_,?_⟩
   ·have e:=dot_exact _ _ hv;rw[t2,e,Rat.zero_add,←hrow];have:=rowM_list _ p.c 0 (fun j=>((b2.vars.take b2.n).map (·.v)).getD j 0) (by rw[hxl,h3];omega) (fun k hk=>by rw[Nat.zero_add]);rw[hxl]at this;exact this
   ·have e:=dot_exact _ _ hv;rw[e,Rat.zero_add];have:=rowM_list _ p.c 0 (fun j=>((b2.vars.take b2.n).map (·.v)).getD j 0) (by rw[hxl,h3];omega) (fun k hk=>by rw[Nat.zero_add]);rw[hxl]at this;exact this
end Go.Proofs.YtpnmcacndjkfaaaGreat
set_option maxHeartbeats 8000000
set_option maxRecDepth 100000
set_option linter.unusedSimpArgs false
set_option linter.unusedVariables false
namespace Go.Proofs.YtpnmcacndjkfaaaGreat
open Go.RowKit Num
def smallPg (p:Pg):Bool:=fitsPg p&&(decide (p.lo.length≤4)&&decide (p.a.length≤5))
theorem psmall_any {w:World} {m:Pa} {p:Pg} (hp:PgAt w m p):Calls Tryz.prog 10 #[.agg (pgC m p)] w fun e w'=>e= .returned (.bool (smallPg p))∧Below w.heap.size w w':=by
 have M:=(Mem.start w).new tyR (pgC m p);have HF:=Lib.hid (pfits_any (hp.below M.bel));have HR:Hid (smallPg p=(fitsPg p&&(decide (p.lo.length≤4)&&decide (p.a.length≤5)))):=rfl;obtain ⟨R,hR⟩:∃R,smallPg p=R:=⟨_,rfl⟩;rw[hR]at HR⊢;obtain ⟨p0,p1,p2,p3,p4⟩:=(M.k (i:=0) rfl).fiveP;clear hp hR;go_enter Tryz.func10,Tryz.ntmps10;go_wp2_with fail;refine HF.out.mono ?_;rintro e w1 ⟨rfl,q1⟩;replace M:=M.below q1;clear p0 p1 p2 p3 p4 HF;obtain ⟨p0,p1,p2,p3,p4⟩:=(M.k (i:=0) rfl).fiveP;have HM:=Lib.hid M.bel;clear M q1;cases hfp:fitsPg p with
 |false=>
  rw[hfp]at HR;have HC:Hid (R=false):=HR.out;go_wp2_with fail;exact bodyPost_ret (v:= .bool false) (by simp[results,Tryz.results10,go_sem]) rfl ⟨by rw[HC.out],HM.out⟩
 |true=>
  rw[hfp]at HR;by_cases h1:p.lo.length≤4
  ·have d1:decide ((p.lo.length:Int)≤4)=true:=decide_eq_true (by omega);by_cases h2:p.a.length≤5
   ·have d2:decide ((p.a.length:Int)≤5)=true:=decide_eq_true (by omega);have HC:Hid (R=true):=HR.out.trans (by rw[decide_eq_true h1,decide_eq_true h2];rfl);clear HR;go_wp2_with fail;exact bodyPost_ret (v:= .bool true) (by simp[results,Tryz.results10,go_sem]) rfl ⟨by rw[HC.out],HM.out⟩
   ·have d2:decide ((p.a.length:Int)≤5)=false:=decide_eq_false (by omega);have HC:Hid (R=false):=HR.out.trans (by rw[decide_eq_false h2];simp);clear HR;go_wp2_with fail;exact bodyPost_ret (v:= .bool false) (by simp[results,Tryz.results10,go_sem]) rfl ⟨by rw[HC.out],HM.out⟩
  ·have d1:decide ((p.lo.length:Int)≤4)=false:=decide_eq_false (by omega);have HC:Hid (R=false):=HR.out.trans (by rw[decide_eq_false h1];simp);clear HR;go_wp2_with fail;exact bodyPost_ret (v:= .bool false) (by simp[results,Tryz.results10,go_sem]) rfl ⟨by rw[HC.out],HM.out⟩
structure Near (p:Pg):Prop where
 lo:∀j,j<p.lo.length→-1048576≤p.lo.getD j 0∧p.lo.getD j 0≤1048576
 hi:∀j,j<p.lo.length→-1048576≤p.hi.getD j 0∧p.hi.getD j 0≤1048576
 c:∀j,j<p.lo.length→-1048576≤p.c.getD j 0∧p.c.getD j 0≤1048576
 b:∀i,i<p.a.length→-1099511627776≤p.b.getD i 0∧p.b.getD i 0≤1099511627776
 a:∀i,i<p.a.length→∀j,j<p.lo.length→-1048576≤(p.a.getD i []).getD j 0∧(p.a.getD i []).getD j 0≤1048576
theorem near_of_right {p:Pg} (h:rightPg p=true):Near p:=by
 rw[rightPg_eq]at h;simp only[Bool.and_eq_true,decide_eq_true_eq]at h;obtain ⟨h1,h2,h3,h4,h5,h6,h7,h8,h9,h10,h11⟩:=h;have hr:∀i,i<p.a.length→(p.a.getD i []).length=p.lo.length∧nearL 1048576 (p.a.getD i [])=true:=fun i hi=>by
  have h12:=List.all_eq_true.1 h11 (p.a.getD i []) (by rw[List.getD_eq_getElem?_getD,List.getElem?_eq_getElem hi];exact List.getElem_mem hi);rw[Bool.and_eq_true,decide_eq_true_eq]at h12;exact h12
 exact ⟨fun j hj=>near_at h6 hj,fun j hj=>near_at h7 (by omega),fun j hj=>near_at h8 (by omega),fun i hi=>near_at h9 (by omega),fun i hi j hj=>near_at (hr i hi).2 (by rw[(hr i hi).1];exact hj)⟩
def CostP (p:Pg) (x:List Int) (e:Ending):Prop:=∃(n:Int) (ok:Bool),e= .returned (.tuple #[.int .i64 n,.bool ok])∧(ok=true→FitsZ p x∧n=costZ p x)
theorem mul_in {a b:Int} (h1: -1048576≤a∧a≤1048576) (h2: -1048576≤b∧b≤1048576): -1099511627776≤a*b∧a*b≤1099511627776:=by
 have:=prod_bound (M:=1048576) (by decide) h1.1 h1.2 h2.1 h2.2;omega
theorem pcost_any {w:World} {m:Pa} {p:Pg} {x:List Int} {A:Option Addr} {c:Nat} (hp:PgAt w m p) (hok:PgOk p) (hne:Near p) (hx:IRow w A x):Calls Tryz.prog 16 #[.agg (pgC m p),.slice A x.length c] w fun e w'=>CostP p x e∧Below w.heap.size w w':=by
 have HP:=Lib.hid hp;have HOK:=Lib.hid hok;have HX:=Lib.hid hx;have HN:=Lib.hid hne;have hn64:p.lo.length≤64:=hok.n;have ha160:p.a.length≤160:=hok.a;have M:=(Mem.start w).new tyR (pgC m p);obtain ⟨p0,p1,p2,p3,p4⟩:=(M.k (i:=0) rfl).fiveP;clear hp hok hx hne;by_cases hl:x.length=p.lo.length
 ·have d0:((x.length:Int) !=(p.lo.length:Int))=false:=by rw[hl];simp
  have HL:=Lib.hid hl;have hx64:x.length≤64:=by omega
  have HM:=Lib.hid M;clear hl M;go_enter Tryz.func16,Tryz.ntmps16;go_wp2_with fail;go_loopg [6,21] x.length (fun k s pp wr=>∃j,k=x.length-j∧j≤x.length∧pp= .int .i64 (j:Nat)∧s= .int .i64 (sumF (fun j=>p.c.getD j 0*x.getD j 0) j)∧Hid (∀i,i<j→p.lo.getD i 0≤x.getD i 0∧x.getD i 0≤p.hi.getD i 0)∧Mem w wr [(w.heap.size,tyR,pgC m p)] [])
  case atStart=>exact ⟨0,rfl,Nat.zero_le _,rfl,rfl,(fun i hi=>absurd hi (Nat.not_lt_zero _)),HM.out⟩
  case round=>
   clear HM p0 p1 p2 p3 p4;obtain ⟨j,hk,hj,rfl,rfl,HI,M⟩:=hrel;obtain ⟨p0,p1,p2,p3,p4⟩:=(M.k (i:=0) rfl).fiveP;by_cases hlt:j<x.length
   ·have d1:decide ((j:Int)<(x.length:Int))=true:=decide_eq_true (by omega);have hltl:j<p.lo.length:=by have:=HL.out;omega
    have hlth:j<p.hi.length:=by rw[HOK.out.hi];exact hltl
    have hltc:j<p.c.length:=by rw[HOK.out.c];exact hltl
    obtain ⟨gl,ol,hA0,c0⟩:=(HP.out.lo.below M.bel) j hltl;obtain ⟨gh,oh,hA1,c1⟩:=(HP.out.hi.below M.bel) j hlth;obtain ⟨gc,oc,hA4,c4⟩:=(HP.out.c.below M.bel) j hltc;obtain ⟨gx,ox,rfl,cx⟩:=(HX.out.below M.bel) j hlt;replace c0:wr.cell? ⟨gl,ol+j,none⟩=some (.int .i64 (p.lo.getD j 0)):=c0;replace c1:wr.cell? ⟨gh,oh+j,none⟩=some (.int .i64 (p.hi.getD j 0)):=c1;replace c4:wr.cell? ⟨gc,oc+j,none⟩=some (.int .i64 (p.c.getD j 0)):=c4;replace cx:wr.cell? ⟨gx,ox+j,none⟩=some (.int .i64 (x.getD j 0)):=cx;rw[hA0]at p0;rw[hA1]at p1;rw[hA4]at p4;have hnear:=Lib.hid (show _∧_∧_ from ⟨HN.out.lo j hltl,HN.out.hi j hltl,HN.out.c j hltl⟩);obtain ⟨S,hS⟩:∃S,sumF (fun j=>p.c.getD j 0*x.getD j 0) j=S:=⟨_,rfl⟩;have HSB:Hid (-(1099511627776*(j:Int))≤S∧S≤1099511627776*(j:Int)):=by
     show _∧_;rw[←hS];refine sumF_bound j fun i hi=>mul_in (HN.out.c i (by omega)) ?_;have:=HI.out i hi;have h1:=HN.out.lo i (by omega);have h2:=HN.out.hi i (by omega);omega
    have HSS:Hid (sumF (fun j=>p.c.getD j 0*x.getD j 0) (j+1)=S+p.c.getD j 0*x.getD j 0):=by
     show _+_=_;rw[hS]
    have HIN:Hid ((p.lo.getD j 0≤x.getD j 0∧x.getD j 0≤p.hi.getD j 0)→∀i,i<j+1→p.lo.getD i 0≤x.getD i 0∧x.getD i 0≤p.hi.getD i 0):=fun h i hi=>by
     by_cases e:i=j
     ·subst e;exact h
     ·exact HI.out i (by omega)
    rw[hS];have HM:=Lib.hid M;clear hA0 hA1 hA4 hS HI M;generalize p.lo.getD j 0=zl at*;generalize p.hi.getD j 0=zh at*;generalize p.c.getD j 0=zc at*;generalize x.getD j 0=zx at*;by_cases h1:zx<zl
    ·have d2:decide (zx<zl)=true:=decide_eq_true h1;go_wp2_with fail;exact bodyPost_ret (v:= .tuple #[.int .i64 0,.bool false]) (by simp[results,Tryz.results16,go_sem]) rfl ⟨⟨0,false,rfl,(fun h=>by cases h)⟩,HM.out.bel⟩
    ·have d2:decide (zx<zl)=false:=decide_eq_false h1;by_cases h2:zh<zx
     ·have d3:decide (zh<zx)=true:=decide_eq_true h2;go_wp2_with fail;exact bodyPost_ret (v:= .tuple #[.int .i64 0,.bool false]) (by simp[results,Tryz.results16,go_sem]) rfl ⟨⟨0,false,rfl,(fun h=>by cases h)⟩,HM.out.bel⟩
     ·have d3:decide (zh<zx)=false:=decide_eq_false h2;have hpb:=mul_in hnear.out.2.2 (show-1048576≤zx∧zx≤1048576 by have:=hnear.out.1;have:=hnear.out.2.1;omega);have HI2:=Lib.hid (HIN.out ⟨by omega,by omega⟩);obtain ⟨T,hT⟩:∃T,zc*zx=T:=⟨_,rfl⟩;rw[hT]at hpb HSS;have w1:wrap64 (zc*zx)=T:=by rw[hT];exact IntWalk.wrap64_in T ⟨by omega,by omega⟩
      have hsb:=HSB.out;have w2:wrap64 (S+T)=S+T:=IntWalk.wrap64_in (S+T) ⟨by omega,by omega⟩;have HSU:Hid (Value.int .i64 (wrap64 (S+wrap64 (zc*zx)))= .int .i64 (sumF (fun j=>p.c.getD j 0*x.getD j 0) (j+1))):=by
       show _=_;rw[w1,w2,HSS.out]
      clear HIN hnear hT hsb HSB hpb w1 w2 HSS;go_wp2_with fail;go_roundg (x.length-(j+1))
      case measure=>omega
      case rel=>exact ⟨j+1,rfl,by omega,by simp,HSU.out,HI2.out,HM.out⟩
   ·have d1:decide ((j:Int)<(x.length:Int))=false:=decide_eq_false (by omega);have hS:sumF (fun j=>p.c.getD j 0*x.getD j 0) j=costZ p x:=by
     have e:j=p.lo.length:=by have:=HL.out;omega
     unfold costZ;rw[e]
    have HIA:Hid (∀i,i<p.lo.length→p.lo.getD i 0≤x.getD i 0∧x.getD i 0≤p.hi.getD i 0):=fun i hi=>HI.out i (by have:=HL.out;omega);rw[hS];obtain ⟨CZ,hCZ⟩:∃z,costZ p x=z:=⟨_,rfl⟩;rw[hCZ];have HCZ:=Lib.hid hCZ;obtain ⟨AA,hAA⟩:∃AA,m.a.1=AA:=⟨_,rfl⟩;rw[hAA]at p2;have HAA:=Lib.hid hAA;have HM:=Lib.hid M;clear hAA M HI hS hCZ;obtain ⟨W0,rfl⟩:∃W0,W0=wr:=⟨_,rfl⟩;go_wp2_with fail;go_loopg [55] p.a.length (fun k pp wr=>∃i,k=p.a.length-i∧i≤p.a.length∧pp= .int .i64 (i:Nat)∧Hid (∀r,r<i→sumF (fun j=>(p.a.getD r []).getD j 0*x.getD j 0) p.lo.length≤p.b.getD r 0)∧Mem w wr [(w.heap.size,tyR,pgC m p)] [])
    case atStart=>exact ⟨0,rfl,Nat.zero_le _,rfl,(fun r hr=>absurd hr (Nat.not_lt_zero _)),HM.out⟩
    case round=>
     clear HM p0 p1 p2 p3 p4 d1 hlt;obtain ⟨i,hk2,hi,rfl,HI,M⟩:=hrel;obtain ⟨p0,p1,p2,p3,p4⟩:=(M.k (i:=0) rfl).fiveP;by_cases hlt:i<p.a.length
     ·have d1:decide ((i:Int)<(p.a.length:Int))=true:=decide_eq_true (by omega);have hltb:i<p.b.length:=by rw[HOK.out.b];exact hlt
      have HM:=Lib.hid M;have HBI:Hid (sumF (fun j=>(p.a.getD i []).getD j 0*x.getD j 0) p.lo.length≤p.b.getD i 0→∀r,r<i+1→sumF (fun j=>(p.a.getD r []).getD j 0*x.getD j 0) p.lo.length≤p.b.getD r 0):=fun h r hr=>by
       by_cases e:r=i
       ·subst e;exact h
       ·exact HI.out r (by omega)
      clear HI M;obtain ⟨W1,rfl⟩:∃W1,W1=wr:=⟨_,rfl⟩;go_wp2_with fail;go_loopg [10,60] x.length (fun k s pp wr=>∃j,k=x.length-j∧j≤x.length∧pp= .int .i64 (j:Nat)∧s= .int .i64 (sumF (fun j=>(p.a.getD i []).getD j 0*x.getD j 0) j)∧Mem w wr [(w.heap.size,tyR,pgC m p)] [])
      case atStart=>exact ⟨0,rfl,Nat.zero_le _,rfl,rfl,HM.out⟩
      case round=>
       clear HM p0 p1 p2 p3 p4 d1;obtain ⟨j',hk3,hj',rfl,rfl,M⟩:=hrel;obtain ⟨p0,p1,p2,p3,p4⟩:=(M.k (i:=0) rfl).fiveP;by_cases hlj:j'<x.length
       ·have d1:decide ((j':Int)<(x.length:Int))=true:=decide_eq_true (by omega);have hltl:j'<p.lo.length:=by have:=HL.out;omega
        have hrl:=HOK.out.rows i hlt;have hltr:j'<(p.a.getD i []).length:=by rw[hrl];exact hltl
        obtain ⟨ga,oa,hA2,ci⟩:=(HP.out.ap.below M.bel) i hlt;replace ci:wr.cell? ⟨ga,oa+i,none⟩=some (.slice (m.rs.getD i (none,0)).1 (p.a.getD i []).length (m.rs.getD i (none,0)).2):=ci;obtain ⟨gr,or,hR,cr⟩:=((HP.out.below M.bel).ar i hlt) j' hltr;replace cr:wr.cell? ⟨gr,or+j',none⟩=some (.int .i64 ((p.a.getD i []).getD j' 0)):=cr;obtain ⟨gx,ox,rfl,cx⟩:=(HX.out.below M.bel) j' hlj;replace cx:wr.cell? ⟨gx,ox+j',none⟩=some (.int .i64 (x.getD j' 0)):=cx;rw[hA2]at p2;rw[hR]at ci;have hpb:=mul_in (HN.out.a i hlt j' hltl) (show-1048576≤x.getD j' 0∧x.getD j' 0≤1048576 by have:=HIA.out j' hltl;have:=HN.out.lo j' hltl;have:=HN.out.hi j' hltl;omega);obtain ⟨S,hS⟩:∃S,sumF (fun j=>(p.a.getD i []).getD j 0*x.getD j 0) j'=S:=⟨_,rfl⟩;have hsb: -(1099511627776*(j':Int))≤S∧S≤1099511627776*(j':Int):=by
         rw[←hS];refine sumF_bound j' fun r hr=>mul_in (HN.out.a i hlt r (by omega)) ?_;have:=HIA.out r (by omega);have h1:=HN.out.lo r (by omega);have h2:=HN.out.hi r (by omega);omega
        have hss:sumF (fun j=>(p.a.getD i []).getD j 0*x.getD j 0) (j'+1)=S+(p.a.getD i []).getD j' 0*x.getD j' 0:=by
         show _+_=_;rw[hS]
        have w1:wrap64 ((p.a.getD i []).getD j' 0*x.getD j' 0)=(p.a.getD i []).getD j' 0*x.getD j' 0:=IntWalk.wrap64_in _ ⟨by omega,by omega⟩;have w2:wrap64 (S+(p.a.getD i []).getD j' 0*x.getD j' 0)=S+(p.a.getD i []).getD j' 0*x.getD j' 0:=IntWalk.wrap64_in _ ⟨by omega,by omega⟩;have HSU:Hid (Value.int .i64 (wrap64 (S+wrap64 ((p.a.getD i []).getD j' 0*x.getD j' 0)))= .int .i64 (sumF (fun j=>(p.a.getD i []).getD j 0*x.getD j 0) (j'+1))):=by
         show _=_;rw[w1,w2,hss]
        rw[hS];have HM:=Lib.hid M;clear hpb hsb hss w1 w2 hS M hrl hA2 hR;generalize (p.a.getD i []).getD j' 0=zc at*;generalize x.getD j' 0=zx at*;generalize (p.a.getD i []).length=lr at*;generalize (m.rs.getD i (none,0)).2=cR at*;go_wp2_with fail;go_roundg (x.length-(j'+1))
        case measure=>omega
        case rel=>exact ⟨j'+1,rfl,by omega,by simp,HSU.out,HM.out⟩
       ·have d1:decide ((j':Int)<(x.length:Int))=false:=decide_eq_false (by omega);have e:j'=p.lo.length:=by have:=HL.out;omega
        rw[e];obtain ⟨S,hS⟩:∃S,sumF (fun j=>(p.a.getD i []).getD j 0*x.getD j 0) p.lo.length=S:=⟨_,rfl⟩;rw[hS]at HBI⊢;obtain ⟨gb,ob,hA3,cb⟩:=(HP.out.b.below M.bel) i hltb;replace cb:wr.cell? ⟨gb,ob+i,none⟩=some (.int .i64 (p.b.getD i 0)):=cb;rw[hA3]at p3;have HM:=Lib.hid M;clear hS hA3 M;generalize p.b.getD i 0=zb at*;by_cases h1:zb<S
        ·have d2:decide (zb<S)=true:=decide_eq_true h1;go_wp2_with fail;exact bodyPost_ret (v:= .tuple #[.int .i64 0,.bool false]) (by simp[results,Tryz.results16,go_sem]) rfl ⟨⟨0,false,rfl,(fun h=>by cases h)⟩,HM.out.bel⟩
        ·have d2:decide (zb<S)=false:=decide_eq_false h1;have HI2:=Lib.hid (HBI.out (by omega));clear HBI;go_wp2_with fail;go_roundg (p.a.length-(i+1))
         case measure=>omega
         case rel=>exact ⟨i+1,rfl,by omega,by simp,HI2.out,HM.out⟩
     ·have d1:decide ((i:Int)<(p.a.length:Int))=false:=decide_eq_false (by omega);have HF:Hid (FitsZ p x):=⟨HL.out,fun j hj=>(HIA.out j hj).1,fun j hj=>(HIA.out j hj).2,fun r hr=>HI.out r (by omega)⟩;have HM:=Lib.hid M;clear HI M;go_wp2_with fail;exact bodyPost_ret (v:= .tuple #[.int .i64 CZ,.bool true]) (by simp[results,Tryz.results16,go_sem]) rfl ⟨⟨CZ,true,rfl,fun _=>⟨HF.out,HCZ.out.symm⟩⟩,HM.out.bel⟩
 ·have d0:((x.length:Int) !=(p.lo.length:Int))=true:=ne_boolK (by omega);have HM:=Lib.hid M;go_enter Tryz.func16,Tryz.ntmps16;go_wp2_with fail;exact bodyPost_ret (v:= .tuple #[.int .i64 0,.bool false]) (by simp[results,Tryz.results16,go_sem]) rfl ⟨⟨0,false,rfl,(fun h=>by cases h)⟩,HM.out.bel⟩
end Go.Proofs.YtpnmcacndjkfaaaGreat
set_option maxHeartbeats 40000000
set_option maxRecDepth 100000
set_option linter.unusedSimpArgs false
set_option linter.unusedVariables false
namespace Go.Proofs.YtpnmcacndjkfaaaGreat
open Go.RowKit Num
def LowQ (p:Pg) (q:Rat):Prop:=∀ξ,Fits p ξ→q≤rowM ξ p.c p.lo.length 0
theorem low_of {p:Pg} {qs:List Rat} {q:Rat} (hr:rightPg p=true) (hl:qs.length=p.a.length) (hn:∀x∈qs,0≤x) (hv:leastP p qs (some p.c)=some q):LowQ p q:=fun ξ hf=>by
 have hok:=ok_of_right hr;rw[leastP_exact hv];exact weak hok.hi hok.b.symm hn hl hf
theorem both_bound {w:World} {m:Pa} {p:Pg} {A:Option Addr} {l:List Fr} (hp:PgAt w m p) (hz:PgSz p) (h:GRow w A l) (hs:l.length≤1000):∃r:R5,((r.2.1.length≤1000000∧r.2.2.2.1.length≤1000000)∧(r.2.2.2.2=0→∃q:Rat,Few q∧r=(sN q.num,sD q.num,false,dig q.den,0)∧LowQ p q))∧∀(w':World) (A':Option Addr) (c':Nat),Below w.heap.size w w'→GRow w' A' l→(Calls Tryz.prog 21 #[.agg (pgC m p),.slice A' l.length c'] w' fun e w2=>RetQE w' w2 e r)∧Calls Tryz.prog 23 #[.agg (pgC m p),.slice A' l.length c'] w' fun e w2=>RetQE w' w2 e r:=by
 by_cases hb:rightPg p=true∧numbersB p l=true
 ·have hnb:=hb.2;unfold numbersB at hnb;rw[Bool.and_eq_true]at hnb;obtain ⟨qs,rfl,hq⟩:=frs_of l fun f hf=>by
   obtain ⟨j,hj,rfl⟩:=List.getElem_of_mem hf;obtain ⟨g,o,_,A1,c1,B1,d1,_,_,_,_,hx,hy⟩:=h j hj;rw[List.getD_eq_getElem?_getD,List.getElem?_eq_getElem hj]at hx hy;exact ⟨hx.ok,hy.ok,List.all_eq_true.1 hnb.2 _ hf⟩
  have hf:∀q∈qs,Few q:=fun q hqq=>(hq q hqq).1;cases hv:leastP p qs (some p.c) with
  |some q=>
   have hfq:Few q:=by
    unfold leastP at hv;obtain ⟨s,_,hv⟩:=Option.bind_eq_some_iff.1 hv;obtain ⟨d,_,hv⟩:=Option.bind_eq_some_iff.1 hv;exact (qfit_some hv).2
   refine ⟨(sN q.num,sD q.num,false,dig q.den,0),⟨⟨Nat.le_trans hfq.1 (by decide),Nat.le_trans hfq.2 (by decide)⟩,fun _=>⟨q,hfq,rfl,low_of hb.1 (by have:=hnb.1;rw[decide_eq_true_eq,List.length_map]at this;exact this) (fun x hx=>(hq x hx).2) hv⟩⟩,fun w' A' c' q0 hg=>⟨?_,?_⟩⟩
   ·refine (bound_good (hp.below q0) hz hg hf (List.length_map ..) hb.1 hb.2).mono ?_;rw[hv];rintro e w2 ⟨q2,⟨q',A,c,B,d,h1,rfl,h2⟩|⟨h1,_⟩⟩
    ·cases h1;exact ⟨⟨A,c,B,d,rfl,h2.num,h2.den⟩,q2⟩
    ·cases h1
   ·refine (rbound_good (hp.below q0) hz hg hf (List.length_map ..) hb.1 hb.2).mono ?_;rw[hv];rintro e w2 ⟨q2,⟨q',A,c,B,d,h1,rfl,h2,h3⟩|⟨h1,_⟩⟩
    ·cases h1;exact ⟨⟨A,c,B,d,rfl,h2,h3⟩,q2⟩
    ·cases h1
  |none=>
   refine ⟨(false,[],false,[],3),⟨⟨Nat.zero_le _,Nat.zero_le _⟩,fun h=>by cases h⟩,fun w' A' c' q0 hg=>⟨?_,?_⟩⟩
   ·refine (bound_good (hp.below q0) hz hg hf (List.length_map ..) hb.1 hb.2).mono ?_;rw[hv];rintro e w2 ⟨q2,⟨q',A,c,B,d,h1,_⟩|⟨_,rfl⟩⟩
    ·cases h1
    ·exact ⟨⟨none,0,none,0,rfl,Rd.nil,Rd.nil⟩,q2⟩
   ·refine (rbound_good (hp.below q0) hz hg hf (List.length_map ..) hb.1 hb.2).mono ?_;rw[hv];rintro e w2 ⟨q2,⟨q',A,c,B,d,h1,_⟩|⟨_,rfl⟩⟩
    ·cases h1
    ·exact ⟨⟨none,0,none,0,rfl,Rd.nil,Rd.nil⟩,q2⟩
 ·refine ⟨(false,[],false,[],2),⟨⟨Nat.zero_le _,Nat.zero_le _⟩,fun h=>by cases h⟩,fun w' A' c' q0 hg=>⟨?_,?_⟩⟩
  ·refine (bound_bad (hp.below q0) hz hg (by omega) hb).mono ?_;rintro e w2 ⟨rfl,q2⟩;exact ⟨⟨none,0,none,0,rfl,Rd.nil,Rd.nil⟩,q2⟩
  ·refine (rbound_bad (hp.below q0) hz hg (by omega) hb).mono ?_;rintro e w2 ⟨rfl,q2⟩;exact ⟨⟨none,0,none,0,rfl,Rd.nil,Rd.nil⟩,q2⟩
theorem fewG_len {l:List Fr} (h:fewG l=true):l.length≤200:=by
 unfold fewG at h;rw[Bool.and_eq_true,decide_eq_true_eq]at h;exact h.1
theorem plexBounds_use (w:World) (m:Pa) (p:Pg) (hp:PgAt w m p) (A:Option Addr) (l:List Fr) (c:Nat) (h:GRow w A l):Calls Tryz.prog 6 #[.agg (pgC m p),.slice A l.length c] w fun e w'=>e= .returned (.bool true)∧Below w.heap.size w w':=by
 have HP:=Lib.hid hp;have HG:=Lib.hid h;have M:=(Mem.start w).new tyR (pgC m p);have HB:=Lib.hid (fun (hz:PgSz p) (hs:l.length≤1000)=>both_bound hp hz h hs);have HFI:=Lib.hid (fun (w':World) (q:Below w.heap.size w w')=>pfits_any (hp.below q));have HFE:=Lib.hid (fun (w':World) (q:Below w.heap.size w w')=>pfew_any (c:=c) (h.below q));clear hp h;go_enter Tryz.func6,Tryz.ntmps6;go_wp2_with fail;refine (plalive_any _).mono ?_;rintro e w1 ⟨rfl,q1⟩;replace M:=M.below q1;obtain ⟨p0,p1,p2,p3,p4⟩:=(M.k (i:=0) rfl).fiveP;go_wp2_with fail;refine (HFI.out _ M.bel).mono ?_;rintro e w2 ⟨rfl,q2⟩;replace M:=M.below q2;clear p0 p1 p2 p3 p4 q1 q2;cases hfi:fitsPg p with
 |false=>
  have HM:=Lib.hid M;go_wp2_with fail;exact bodyPost_ret (v:= .bool true) (by simp[results,Tryz.results6,go_sem]) rfl ⟨rfl,HM.out.bel⟩
 |true=>
  have HZ:=Lib.hid (sz_fits hfi);go_wp2_with fail;refine (HFE.out _ M.bel).mono ?_;rintro e w3 ⟨rfl,q3⟩;replace M:=M.below q3;clear q3;cases hfe:fewG l with
  |false=>
   have HM:=Lib.hid M;go_wp2_with fail;exact bodyPost_ret (v:= .bool true) (by simp[results,Tryz.results6,go_sem]) rfl ⟨rfl,HM.out.bel⟩
  |true=>
   have hl2:=fewG_len hfe;obtain ⟨⟨n,xs,mm,ys,k⟩,⟨⟨L1,L2⟩,_⟩,hbb⟩:=HB.out HZ.out (by omega);dsimp only at L1 L2;have HL1:=Lib.hid L1;have HL2:=Lib.hid L2;clear L1 L2;have HBB:=Lib.hid hbb;clear hbb HB HFI HFE hfi hfe;obtain ⟨p0,p1,p2,p3,p4⟩:=(M.k (i:=0) rfl).fiveP;go_wp2_with fail;refine ptheirs_any.mono ?_;rintro e w4 ⟨rfl,q4⟩;replace M:=M.below q4;clear q4 p0 p1 p2 p3 p4;go_wp2_with fail;refine (rats_theirs (HG.out.below M.bel) (by omega)).mono ?_;rintro e w5 ⟨A5,c5,rfl,hg5,q5⟩;replace M:=M.below q5;clear q5;go_wp2_with fail;refine ((HBB.out _ A5 c5 M.bel hg5).1).mono ?_;rintro e w6 ⟨⟨A6,c6,B6,d6,rfl,h6,k6⟩,q6⟩;replace M:=((M.below q6).addR k6).addR h6;have l6:=(M.k (i:=0) rfl).lt;replace M:=M.new 33 #[.bool n,.slice A6 xs.length c6,.bool mm,.slice B6 ys.length d6];clear q6 h6 k6 hg5;obtain ⟨p0,p1,p2,p3,p4⟩:=(M.k (i:=1) rfl).fiveP;go_wp2_with fail;refine ((HBB.out _ A c M.bel (HG.out.below M.bel)).2).mono ?_;rintro e w7 ⟨⟨A7,c7,B7,d7,rfl,h7,k7⟩,q7⟩;replace M:=((M.below q7).addR k7).addR h7;have l7:=(M.k (i:=0) rfl).lt;replace M:=M.new 45 #[.bool n,.slice A7 xs.length c7,.bool mm,.slice B7 ys.length d7];clear q7 h7 k7 p0 p1 p2 p3 p4 HBB;go_upto_region 7 with fail;have HW:=Lib.hid M.bel;have MR:=M.rebase;clear M;refine region_st (n:=10) (frame:= ?frame1) (fun jK=>[.val (.fix (.agg #[.bool n,.slice A6 xs.length c6,.bool mm,.slice B6 ys.length d6])),.val (.fix (rv n A6 xs.length c6 mm B6 ys.length d6)),.val (.fix (.agg #[.bool n,.slice A7 xs.length c7,.bool mm,.slice B7 ys.length d7])),.val (.fix (.bool true)),.val (.fix (.bool true)),.val (.fix (.int .i64 k)),.val (.fix (.int .i64 k)),.val (.fix (.bool true)),.val (.fix (.bool true)),.val (.fix (.bool true))].getD jK .none) [] (by kernel_rfl) (by kernel_rfl) (by kernel_rfl) rfl MR (fun _ h=>by cases h) (fun _ h=>by cases h) ?_ ?_ ?_
   case refine_1=>
    intro s;simp only[fr,Act.put,List.append_eq,List.cons_append,List.nil_append,List.setIfInBounds_toArray,List.set_cons_zero,List.set_cons_succ,Nat.reduceAdd];rfl
   case refine_2=>
    refine SC 0 1 rfl ?_ (SC 1 2 rfl ?_ (SC 2 3 rfl ?_ (SC 3 4 rfl ?_ (SC 4 5 rfl ?_ (SC 5 6 rfl ?_ (SC 6 7 rfl ?_ (SC 7 8 rfl ?_ (SC 8 9 rfl ?_ (SC 9 10 rfl ?_ Steps.nil)))))))));all_goals (intro L s w9 hN hU hi hS K hK;dsimp only at hK⊢;simp only[Act.put,List.setIfInBounds_toArray,List.set_cons_zero,List.set_cons_succ]at hK)
    ·obtain ⟨u1,u2,u3,u4⟩:=(hS.mem.k (i:=1) rfl).four;go_simp;exact hK.out _ _ (hS.v0 rfl rfl rfl)
    ·have e0:=hS.fx 0 rfl rfl (hN.out 0 rfl);simp only[e0]at hK⊢;go_simp;go_at_call 25;refine (ours4_any _ _ _ _ _ _ _ _ _).mono ?_;rintro e9 w10 ⟨rfl,q⟩;exact hK.out _ _ (hS.val rfl (noStore_of rfl) q rfl)
    ·obtain ⟨u1,u2,u3,u4⟩:=(hS.mem.k (i:=0) rfl).four;go_simp;exact hK.out _ _ (hS.v0 rfl rfl rfl)
    ·have e1:=hS.fx 1 rfl rfl (hN.out 1 rfl);simp only[e1]at hK⊢;have e2:=hS.fx 2 rfl rfl (hN.out 2 rfl);simp only[e2]at hK⊢;go_simp;go_at_call 24;refine (rqsame_self (hS.mem.r (i:=2) rfl) (hS.mem.r (i:=3) rfl) (hS.mem.r (i:=0) rfl) (hS.mem.r (i:=1) rfl) HL1.out HL2.out).mono ?_;rintro e9 w10 ⟨rfl,q⟩;exact hK.out _ _ (hS.val rfl (noStore_of rfl) q rfl)
    ·have e3:=hS.fx 3 rfl rfl (hN.out 3 rfl);simp only[e3]at hK⊢;go_simp;exact hK.out _ _ (hS.v0 rfl rfl rfl)
    ·have e4:=hS.fx 4 rfl rfl (hN.out 4 rfl);simp only[e4]at hK⊢;go_simp;exact hK.out _ _ (hS.v0 rfl rfl rfl)
    ·have e4:=hS.fx 4 rfl rfl (hN.out 4 rfl);simp only[e4]at hK⊢;go_simp;exact hK.out _ _ (hS.v0 rfl rfl rfl)
    ·have e5:=hS.fx 5 rfl rfl (hN.out 5 rfl);simp only[e5]at hK⊢;have e6:=hS.fx 6 rfl rfl (hN.out 6 rfl);simp only[e6]at hK⊢;have e4:=hS.fx 4 rfl rfl (hN.out 4 rfl);simp only[e4]at hK⊢;go_simp;exact hK.out _ _ (hS.v0 rfl rfl rfl)
    ·have e4:=hS.fx 4 rfl rfl (hN.out 4 rfl);simp only[e4]at hK⊢;have e7:=hS.fx 7 rfl rfl (hN.out 7 rfl);simp only[e7]at hK⊢;go_simp;exact hK.out _ _ (hS.v0 rfl rfl rfl)
    ·have e8:=hS.fx 8 rfl rfl (hN.out 8 rfl);simp only[e8]at hK⊢;go_simp;exact hK.out _ _ (hS.v0 rfl rfl rfl)
   intro L s w9 hall hS;have eL:s 9= .bool true:=hS.fx 9 rfl rfl (hall 9 (by decide));have q9:=hS.mem.bel;simp only[eL];have M9:=Lib.hid (below_trans HW.out q9);clear hS hall eL q9 MR;go_wp2_with fail;exact bodyPost_ret (v:= .bool true) (by simp[results,Tryz.results6,go_sem]) rfl ⟨rfl,M9.out⟩
end Go.Proofs.YtpnmcacndjkfaaaGreat

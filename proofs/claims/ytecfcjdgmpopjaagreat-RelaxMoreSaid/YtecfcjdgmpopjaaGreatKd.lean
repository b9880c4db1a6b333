/-
  Joined texts: Dat, Rgn, Kg, Kd.
-/
import Derived.Test.YtecfcjdgmpopjaaGreatProg
import Derived.Test.YtecfcjdgmpopjaaGreatReg
import Derived.Maps.AppendAt
import Derived.Test.YtecfcjdgmpopjaaGreatKb
set_option linter.unusedSimpArgs false
set_option linter.unusedVariables false
namespace Go.Proofs.YtecfcjdgmpopjaaGreat
open Go.RowKit
theorem grown_of_below {w w':World}(h:Below w.heap.size w w'):w.grownBy w' none:=⟨h.os,h.tape,h.output,h.size,fun b hb _=>h.block b hb⟩
theorem wpList_wanted {P:Program}{ops:Array Oper}{Q:Exit→Act→World→Prop}{a:Act}{w:World}{rest:List Oper}{o:Oper}(hw:Region.wanted o (yielded ops a.tmps)=true)(h:∀K:Act→World→Prop,(∀a w,wpList P ops Q rest a w→K a w)→o.wp P a w K Q):wpList P ops Q (o::rest) a w:=
 wpList_step fun K hK=>by rw[if_pos hw];exact h K hK
open Go.RowKit Num
abbrev oF (v:Value):Option Value:=some v
abbrev oP (g o:Nat):Option Value:=some (.pointer (some ⟨g,o,none⟩))
abbrev oI (z:Int):Option Value:=some (.int .i64 z)
def Vs (vs:List (Option Value))(L:Nat→Bool)(s:Nat→Value):Prop:=∀j v,vs.getD j none=some v→L j=true→s j=v
theorem Vs.at {vs:List (Option Value)}{L:Nat→Bool}{s:Nat→Value}(h:Vs vs L s)(j:Nat)(hL:L j=true){v:Value}(hv:vs.getD j none=some v:=by exact rfl):s j=v:=h j v hv hL
theorem Vs.put {vs:List (Option Value)}{L:Nat→Bool}{s:Nat→Value}(h:Vs vs L s)(i:Nat){v:Value}(hv:vs.getD i none=some v:=by exact rfl):Vs vs (upd L i true) (upd s i v):=fun j u hu hL=>by
 by_cases e:j=i
 ·subst e;rw[upd_same];rw[hv]at hu;exact Option.some.inj hu
 ·rw[upd_ne _ _ e]at hL⊢;exact h j u hu hL
theorem Vs.eff {vs:List (Option Value)}{L:Nat→Bool}{s:Nat→Value}(h:Vs vs L s)(i:Nat){v:Value}(hv:vs.getD i none=none:=by exact rfl):Vs vs (upd L i true) (upd s i v):=fun j u hu hL=>by
 by_cases e:j=i
 ·subst e;rw[hv]at hu;cases hu
 ·rw[upd_ne _ _ e]at hL⊢;exact h j u hu hL
def StepG (I:(Nat→Bool)→(Nat→Value)→World→Prop)(ops:Array Oper)(Q:Exit→Act→World→Prop)(frame:(Nat→Value)→Act)(i:Nat)(o:Oper):Prop:=
 ∀(L:Nat→Bool)(s:Nat→Value)(w:World),Shut (∀j,needs o j=true→L j=true)→Shut (∀k o',ops[k]? =some o'→needs o' i=true→L k=false)→Shut (L i=false)→Shut (∀j o',ops[j]? =some o'→L j=true→∀k,needs o' k=true→L k=true)→I L s w→
  ∀K:Act→World→Prop,Shut (∀v w',I (upd L i true) (upd s i v) w'→K ((frame s).put o.dst v) w')→
   if Region.wanted o (yielded ops (frame s).tmps)=true then Oper.wp Tryz.prog o (frame s) w K Q else K ((frame s).put o.dst undef) w
theorem Shut.no {ops:Array Oper}{L:Nat→Bool}(hC:Shut (∀j o',ops[j]? =some o'→L j=true→∀k,needs o' k=true→L k=true))(k j:Nat){o:Oper}(ho:ops[k]? =some o)(hn:needs o j=true)(hj:L j=false):L k=false:=by
 rcases Bool.eq_false_or_eq_true (L k) with h|h
 ·have:=hC.out k o ho h j hn;rw[hj]at this;cases this
 ·exact h
theorem region_gen0 {id n:Nat}{ops:Array Oper}{a:Act}{w:World}{Q:Exit→Act→World→Prop}{frame:(Nat→Value)→Act}(I:(Nat→Bool)→(Nat→Value)→World→Prop)(hm:Tryz.prog.follows .mixedOrders=true)(hd:dstsOk ops.toList=true)(hb:backs 0 ops.toList=true)(hn:ops.size=n)(h0:I (fun _=>false) (fun k=>match (ops[k]?).bind (·.dst) with|some d=>a.tmps.getD d undef|none=>undef) w.drew)(hf:∀s,fr s a 0 ops.toList=frame s)(hstep:Steps (StepG I ops Q frame) 0 ops.toList)(hend:∀(L:Nat→Bool)(s:Nat→Value)(w':World),(∀j,j<n→L j=true)→I L s w'→Q .normal (frame s) w'):(Code.region id ops true).wp Tryz.prog Q a w:=by
 subst hn;refine region_inv hm (fun listed a' w'=>listed.size=ops.size∧(∀j o,ops[j]? =some o→listed.getD j false=true→∀i,needs o i=true→listed.getD i false=true)∧∃s,a'=frame s∧I (fun j=>listed.getD j false) s w') ?_ ?_ ?_
 ·have hL:∀j,(Array.replicate ops.size false).getD j false=false:=by
   intro j;rw[Array.getD_eq_getD_getElem?,Array.getElem?_replicate];split<;>rfl
  have hno:∀j,(Array.replicate ops.size false).getD j false=true→False:=fun j h=>by
   rw[hL j]at h;cases h
  have hL':(fun j=>(Array.replicate ops.size false).getD j false)=fun _=>false:=funext hL;refine And.intro (by simp) (And.intro (fun j o ho hj=>(hno j hj).elim) ⟨fun k=>match (ops[k]?).bind (·.dst) with|some d=>a.tmps.getD d undef|none=>undef,?_,by rw[hL'];exact h0⟩);rw[←hf];refine(fr_start ops.toList a 0 ?_).symm;intro j o hj x hx;have hj':ops[j]? =some o:=by simpa using hj
  simp only[Nat.zero_add,hj',Option.bind_some,hx]
 ·rintro listed a' w' i hi ⟨hsz,hcl,s,rfl,hS⟩;have hlf:=ready_false hi;unfold Region.ready at hi;rw[List.mem_filter]at hi;obtain⟨hi1,hi2⟩:=hi;have hlt:i<ops.size:=List.mem_range.1 hi1;have ho:ops[i]? =some ops[i]:=Array.getElem?_eq_getElem hlt;generalize ops[i]=o at ho;rw[Bool.and_eq_true,ho]at hi2;have hi3:(o.after.all fun e=> !Region.binds .any e||listed.getD e.on false)=true:=hi2.2;rw[Array.all_eq_true_iff_forall_mem]at hi3;have hneed:∀j,needs o j=true→listed.getD j false=true:=by
   intro j hj;unfold needs at hj;rw[List.any_eq_true]at hj;obtain⟨e,he,h2⟩:=hj;rw[Bool.and_eq_true]at h2;have h3:=hi3 e (Array.mem_toList_iff.1 he);rw[h2.2]at h3;have h4:e.on=j:=by simpa using h2.1
   rw[h4]at h3;simpa using h3
  have hli:listed.getD i false=false:=by rw[Array.getD_eq_getD_getElem?,hlf];rfl
  have hset:∀j,(listed.setIfInBounds i true).getD j false=upd (fun j=>listed.getD j false) i true j:=by
   intro j;rw[Array.getD_eq_getD_getElem?,Array.getElem?_setIfInBounds];by_cases e:i=j
   ·subst e;rw[upd_same];simp[hsz,hlt]
   ·rw[upd_ne _ _ (fun e2=>e e2.symm)];simp[e,Array.getD_eq_getD_getElem?]
  refine wpOp_step ho (fun K hK=> ?_);have hst:=Steps.at_ ops.toList 0 hstep i o (by simpa using ho);rw[Nat.zero_add]at hst;refine hst (fun j=>listed.getD j false) s w' hneed ?_ hli hcl hS K ?_
  ·intro k o' hk hn';rcases Bool.eq_false_or_eq_true (listed.getD k false) with hk2|hk2
   ·have:=hcl k o' hk hk2 i hn';rw[hli]at this;cases this
   ·exact hk2
  ·intro v w'' hS';refine hK _ _ ⟨by simpa using hsz,?_,upd s i v,?_,?_⟩
   ·intro j o' ho' hj i' hi';rw[hset]at hj⊢;by_cases e:j=i
    ·subst e;obtain rfl:o=o':=by rw[ho]at ho';exact Option.some.inj ho'
     by_cases e2:i'=j
     ·subst e2;exact upd_same _ _ _
     ·rw[upd_ne _ _ e2];exact hneed i' hi'
    ·rw[upd_ne _ _ e]at hj;by_cases e2:i'=i
     ·subst e2;exact upd_same _ _ _
     ·rw[upd_ne _ _ e2];exact hcl j o' ho' hj i' hi'
   ·rw[←hf,←hf];exact(fr_upd ops.toList a 0 i o hd (Nat.zero_le _) (by simpa using ho)).symm
   ·have:(fun j=>(listed.setIfInBounds i true).getD j false)=upd (fun j=>listed.getD j false) i true:=funext hset;rw[this];exact hS'
 ·rintro listed a' w' hr ⟨hsz,hcl,s,rfl,hS⟩;refine hend _ s w' ?_ hS;intro j;induction j using Nat.strongRecOn with
  |_ j ih=>
   intro hj;rcases Bool.eq_false_or_eq_true (listed.getD j false) with h|h
   ·exact h
   ·exfalso;have ho:ops[j]? =some ops[j]:=Array.getElem?_eq_getElem hj;generalize ops[j]=o at ho;have:j∈Region.ready .any ops listed:=by
     unfold Region.ready;rw[List.mem_filter];refine⟨List.mem_range.2 hj,?_⟩;rw[Bool.and_eq_true,ho];refine⟨?_,?_⟩
     ·have hj2:j<listed.size:=by rw[hsz];exact hj
      rw[Array.getD_eq_getD_getElem?,Array.getElem?_eq_getElem hj2]at h⊢;simp at h⊢;exact h
     ·show(o.after.all fun e=> !Region.binds .any e||listed.getD e.on false)=true;rw[Array.all_eq_true_iff_forall_mem];intro e he;rcases Bool.eq_false_or_eq_true (Region.binds .any e) with hb2|hb2
      ·have hlt:=backs_spec ops.toList 0 hb j o (by simpa using ho) e he hb2;rw[Nat.zero_add]at hlt;rw[ih e.on hlt (Nat.lt_trans hlt hj)];simp
      ·rw[hb2];rfl
    rw[hr]at this;cases this
theorem no_f {p:Prop}(h:false=true):p:=by cases h
theorem no_t {p:Prop}(h:true=false):p:=by cases h
def tailOk (ops:Array Oper)(n:Nat):Bool:=(List.range n).all fun j=>(List.range (n+1)).any fun k=>decide (j<k)&&(match ops[k]? with
 |some o=>needs o j
 |none=>false)
theorem tail_one {ops:Array Oper}{n j:Nat}(ht:tailOk ops n=true)(hj:j<n):∃k o,j<k∧k≤n∧ops[k]? =some o∧needs o j=true:=by
 have h:=List.all_eq_true.1 ht j (List.mem_range.2 hj);obtain⟨k,hk,h2⟩:=List.any_eq_true.1 h;have hkn:=List.mem_range.1 hk;rw[Bool.and_eq_true,decide_eq_true_eq]at h2;cases ho:ops[k]? with
 |none=>rw[ho]at h2;cases h2.2
 |some o=>
  rw[ho]at h2;exact⟨k,o,h2.1,by omega,ho,h2.2⟩
theorem tail_all {ops:Array Oper}{n:Nat}{L:Nat→Bool}{last:Oper}(ht:tailOk ops n=true)(hl:ops[n]? =some last)(hN:∀j,needs last j=true→L j=true)(hC:∀j o',ops[j]? =some o'→L j=true→∀k,needs o' k=true→L k=true):∀d j,n-j≤d→j<n→L j=true
 |0,j,h,hj=>by omega
 |d+1,j,h,hj=>by
  obtain⟨k,o,h1,h2,h3,h4⟩:=tail_one ht hj;by_cases e:k=n
  ·subst e;rw[hl]at h3;cases h3;exact hN j h4
  ·exact hC k o h3 (tail_all ht hl hN hC d k (by omega) (by omega)) j h4
theorem steps_of {p:Nat→Oper→Prop}:∀(l:List Oper)(k:Nat),(∀j o,l[j]? =some o→p (k+j) o)→Steps p k l
 |[],_,_=>trivial
 |o::r,k,h=>⟨by simpa using h 0 o rfl,steps_of r (k+1) fun j o' ho=>by
  have:=h (j+1) o' (by simpa using ho);rwa[show k+1+j=k+(j+1) by omega]⟩
theorem region_tail {id n:Nat}{ops:Array Oper}{a:Act}{w w0:World}{Q:Exit→Act→World→Prop}{Ks:List (Nat×TypeId×Array Value)}{Rs:List (Option Addr×Nat×List Nat)}{frame:(Nat→Value)→Act}(kind:Nat→Kind)(R:(Nat→Value)→World→Prop)(last:Oper)(hm:Tryz.prog.follows .mixedOrders=true)(hd:dstsOk ops.toList=true)(hb:backs 0 ops.toList=true)(hn:ops.size=n+1)(hl:ops[n]? =some last)(ht:tailOk ops n=true)(M:Mem w0 w Ks Rs)(hf:∀s,fr s a 0 ops.toList=frame s)(hstep:Steps (StepAt w0 w.heap.size n kind [] Ks Rs ops Q frame) 0 (ops.toList.take n))(hfin:∀(L:Nat→Bool)(s:Nat→Value)(w':World),(∀j,j<n→L j=true)→St w0 w.heap.size n kind [] Ks Rs L s w'→∀K:Act→World→Prop,Shut (∀v w'',R (upd s n v) w''→K ((frame s).put last.dst v) w'')→if Region.wanted last (yielded ops (frame s).tmps)=true then Oper.wp Tryz.prog last (frame s) w' K Q else K ((frame s).put last.dst undef) w')(hend:∀(s:Nat→Value)(w':World),R s w'→Q .normal (frame s) w'):(Code.region id ops true).wp Tryz.prog Q a w:=by
 refine region_gen0 (n:=n+1) (frame:=frame) (fun L s w'=>(L n=false∧St w0 w.heap.size n kind [] Ks Rs L s w')∨(L n=true∧R s w')) hm hd hb hn ?_ hf ?_ ?_
 ·exact .inl ⟨rfl,M.drew,(fun k hk=>M.lt k hk),M.bel.size,Nat.le_refl _,(fun j hj h=>by cases h),(fun i j hi hj _ _ _ h _=>by cases h),(fun o ho=>by cases ho),(fun a ha=>by cases ha)⟩
 ·refine steps_of _ 0 fun j o ho=> ?_;rw[Nat.zero_add];have ho':ops[j]? =some o:=by simpa using ho
  intro L s w' hN hU hi hC hI K hK;by_cases hj:j<n
  ·rcases hI with ⟨h0,hS⟩|⟨h1,hR⟩
   ·have hst:=Steps.at_ _ 0 hstep j o (by rw[List.getElem?_take_of_lt hj];exact ho);rw[Nat.zero_add]at hst;refine hst L s w' hN hU hi hS K fun v w'' hS'=>hK.out v w'' (.inl ⟨?_,hS'⟩);rw[upd_ne _ _ (by omega)];exact h0
   ·have:=tail_all ht hl (hC.out n last hl h1) hC.out n j (by omega) hj;rw[hi.out]at this;cases this
  ·have hjn:j=n:=by
    have:j<ops.size:=(Array.getElem?_eq_some_iff.1 ho').1;omega
   subst hjn;rw[hl]at ho';cases ho';rcases hI with ⟨h0,hS⟩|⟨h1,hR⟩
   ·exact hfin L s w' (fun i hij=>tail_all ht hl hN.out hC.out j i (by omega) hij) hS K fun v w'' hR'=>hK.out v w'' (.inr ⟨upd_same _ _ _,hR'⟩)
   ·rw[hi.out]at h1;cases h1
 ·intro L s w' hall hI;rcases hI with ⟨h0,_⟩|⟨_,hR⟩
  ·rw[hall n (by omega)]at h0;cases h0
  ·exact hend s w' hR
set_option maxRecDepth 100000
abbrev qv (q:Rat)(A:Option Addr)(c:Nat)(B:Option Addr)(d:Nat):Value:=rv (sN q.num) A (sD q.num).length c false B (dig q.den).length d
structure QR (w:World) (A:Option Addr) (c:Nat) (B:Option Addr) (d:Nat) (q:Rat):Prop where
 num:Rd w A c (sD q.num)
 den:Rd w B d (dig q.den)
 few:Few q
theorem QR.below {w w':World}{A B:Option Addr}{c d:Nat}{q:Rat}(h:QR w A c B d q)(p:Below w.heap.size w w'):QR w' A c B d q:=⟨h.num.below p ZL,h.den.below p ZL,h.few⟩
theorem QR.boxed {w w':World}{A B:Option Addr}{c d g:Nat}{q:Rat}(h:QR w A c B d q)(hi:Box w g)(hg:w.grownBy w' (some g)):QR w' A c B d q:=⟨h.num.boxed hi hg,h.den.boxed hi hg,h.few⟩
def ThrewX (e:Ending):Prop:=∃v:TypeId×Value,e= .panicked [{v:= .iface v.1 v.2,recovered:=false}]
def RetP (w w':World)(e:Ending)(o:Option Rat):Prop:=Below w.heap.size w w'∧((∃q A c B d,o=some q∧e= .returned (qv q A c B d)∧QR w' A c B d q)∨(o=none∧ThrewX e))
theorem few_int {z:Int}(h:(sD z).length≤64):Few (z:Rat):=⟨h,by show(dig 1).length≤64;decide⟩
theorem den_int (z:Int):dig ((z:Rat).den)=[1]:=by
 show dig 1=[1];decide
theorem ne_boolK {a b:Int}(h:a≠b):(a !=b)=true:=by simp[bne,h]
theorem eq_boolK {a b:Int}(h:a≠b):(a==b)=false:=beq_false_of_ne h
theorem below_own {w0 w w':World}{g:Nat}(h:Below w0.heap.size w0 w)(hg:w.grownBy w' (some g))(hk:w0.heap.size≤g):Below w0.heap.size w0 w':=
 h.grown hg h.size (fun k e=>by injection e with e;subst e;exact hk)
theorem must_ok (n:Bool)(A:Option Addr)(l c:Nat)(m:Bool)(B:Option Addr)(k d:Nat)(w:World):Calls Tryz.prog 164 #[rv n A l c m B k d,.int .i64 0] w fun e w'=>e= .returned (rv n A l c m B k d)∧Below w.heap.size w w':=by
 have M:=((Mem.start w).new 72 #[.bool n,.slice A l c,.bool m,.slice B k d]).newAt (g:=w.heap.size+1) (by simp) 72 #[.bool false,.slice none 0 0,.bool false,.slice none 0 0];obtain⟨v1,v2,v3,v4⟩:=(M.k (i:=1) rfl).four;go_enter Tryz.func164,Tryz.ntmps164;go_wp2_with ((with_reducible refine st_ ?_);refine wP2 _ _ (M.k (i:=0) rfl) rfl rfl rfl rfl info_rat rfl rfl ?_;intro w4 b4 g4;obtain⟨f1,f2,f3,f4⟩:=b4.four);exact bodyPost_ret (v:=rv n A l c m B k d) (by simp[results,Tryz.results164,go_sem,f1,f2,f3,f4]) rfl ⟨rfl,below_own M.bel g4 (Nat.le_succ _)⟩
theorem must_bad (n:Bool)(A:Option Addr)(l c:Nat)(m:Bool)(B:Option Addr)(k d:Nat)(x:Int)(hx:x≠0)(w:World):Calls Tryz.prog 164 #[rv n A l c m B k d,.int .i64 x] w fun e w'=>ThrewX e∧Below w.heap.size w w':=by
 have hx':=ne_boolK hx;have M:=((Mem.start w).new 72 #[.bool n,.slice A l c,.bool m,.slice B k d]).newAt (g:=w.heap.size+1) (by simp) 72 #[.bool false,.slice none 0 0,.bool false,.slice none 0 0];clear hx;go_enter Tryz.func164,Tryz.ntmps164;go_wp2_with fail;exact⟨rfl,⟨(_,_),rfl⟩,M.bel⟩
theorem qadd_rat {w:World}{A B A' B':Option Addr}{c d c' d':Nat}{p q:Rat}(h:QR w A c B d p)(h':QR w A' c' B' d' q):Calls Tryz.prog 41 #[qv p A c B d,qv q A' c' B' d'] w fun e w'=>RetQE w w' e (fitQ (p+q)):=by
 have:=qadd_any (n:=sN p.num) (m:=false) (n':=sN q.num) (m':=false) h.num h.den h'.num h'.den;unfold qaddR at this;rw[qright_rat h.few,qright_rat h'.few,if_pos (by decide),toQ_rat,toQ_rat]at this;exact this
theorem qmul_rat {w:World}{A B A' B':Option Addr}{c d c' d':Nat}{p q:Rat}(h:QR w A c B d p)(h':QR w A' c' B' d' q):Calls Tryz.prog 132 #[qv p A c B d,qv q A' c' B' d'] w fun e w'=>RetQE w w' e (fitQ (p*q)):=by
 have:=qmul_any (n:=sN p.num) (m:=false) (n':=sN q.num) (m':=false) h.num h.den h'.num h'.den;unfold qmulR at this;rw[qright_rat h.few,qright_rat h'.few,if_pos (by decide),toQ_rat,toQ_rat]at this;exact this
theorem qdiv_rat {w:World}{A B A' B':Option Addr}{c d c' d':Nat}{p q:Rat}(h:QR w A c B d p)(h':QR w A' c' B' d' q):Calls Tryz.prog 133 #[qv p A c B d,qv q A' c' B' d'] w fun e w'=>RetQE w w' e (if q=0 then dbad 2 else fitQ (p/q)):=by
 have:=qdiv_any (n:=sN p.num) (m:=false) (n':=sN q.num) (m':=false) h.num h.den h'.num h'.den;unfold qdivR at this;rw[qright_rat h.few,qright_rat h'.few,toQ_rat,toQ_rat]at this;by_cases h0:q=0
 ·rw[if_pos h0];rw[if_neg (by simp[show sD q.num=[] from sD_nil.2 (Rat.num_eq_zero.2 h0)])]at this;exact this
 ·rw[if_neg h0];rw[if_pos (by simp[show sD q.num≠[] from num_ne.2 h0])]at this;exact this
theorem qneg_rat {w:World}{A B:Option Addr}{c d:Nat}{p:Rat}(h:QR w A c B d p):Calls Tryz.prog 42 #[qv p A c B d] w fun e w'=>RetQE w w' e (qok (-p)):=by
 have:=qneg_any (n:=sN p.num) (m:=false) h.num h.den;unfold qnegR at this;rw[qright_rat h.few,if_pos rfl,toQ_rat]at this;exact this
theorem qcmp_rat {w:World}{A B A' B':Option Addr}{c d c' d':Nat}{p q:Rat}(h:QR w A c B d p)(h':QR w A' c' B' d' q):Calls Tryz.prog 215 #[qv p A c B d,qv q A' c' B' d'] w fun e w'=>e= .returned (.tuple #[.int .i64 (cmpQ p q),.int .i64 0])∧Below w.heap.size w w':=by
 have:=qcmp_any (n:=sN p.num) (m:=false) (n':=sN q.num) (m':=false) h.num h.den h'.num h'.den;unfold qcmpR at this;rw[qright_rat h.few,qright_rat h'.few,if_pos (by decide),toQ_rat,toQ_rat]at this;exact this
theorem few_neg {p:Rat}(h:Few p):Few (-p):=(sz_neg (j:=64) h).few ZL
theorem fit_or (q:Rat):(Few q∧fitQ q=qok q∧qfit q=some q)∨(fitQ q=dbad 3∧qfit q=none):=by
 by_cases h:Few q
 ·exact .inl ⟨h,if_pos h,if_pos h⟩
 ·exact .inr ⟨if_neg h,if_neg h⟩
theorem told_cases {o:Option Rat}{R:R5}(h:(∃r,o=some r∧Few r∧R=qok r)∨(o=none∧∃x:Int,x≠0∧R=dbad x)):(∃r,R=qok r∧Hid (o=some r∧Few r))∨∃x:Int,R=dbad x∧Hid (o=none∧x≠0):=by
 rcases h with ⟨r,h1,h2,h3⟩|⟨h1,x,h2,h3⟩
 ·exact .inl ⟨r,h3,h1,h2⟩
 ·exact .inr ⟨x,h3,h1,h2⟩
theorem told_fit (q:Rat):(∃r,qfit q=some r∧Few r∧fitQ q=qok r)∨(qfit q=none∧∃x:Int,x≠0∧fitQ q=dbad x):=by
 rcases fit_or q with ⟨h1,h2,h3⟩|⟨h2,h3⟩
 ·exact .inl ⟨q,h3,h1,h2⟩
 ·exact .inr ⟨h3,3,by decide,h2⟩
theorem padd_any {w:World}{A B A' B':Option Addr}{c d c' d':Nat}{p q:Rat}(h:QR w A c B d p)(h':QR w A' c' B' d' q):Calls Tryz.prog 118 #[qv p A c B d,qv q A' c' B' d'] w fun e w'=>RetP w w' e (addO p q):=by
 have HX:=ZH (fun(w':World)(k:Below w.heap.size w w')=>qadd_rat (h.below k) (h'.below k));have HT:=ZH (told_fit (p+q));unfold addO;generalize qfit (p+q)=o at*;generalize fitQ (p+q)=R at*;clear h h';unfold qv at HX⊢;generalize sN p.num=n at*;generalize sD p.num=xs at*;generalize dig p.den=ys at*;generalize sN q.num=n' at*;generalize sD q.num=xs' at*;generalize dig q.den=ys' at*;have M:=(((Mem.start w).new 72 #[.bool n,.slice A xs.length c,.bool false,.slice B ys.length d]).newAt (g:=w.heap.size+1) (by simp) 72 #[.bool n',.slice A' xs'.length c',.bool false,.slice B' ys'.length d']).newAt (g:=w.heap.size+1+1) (by simp) 72 #[.bool false,.slice none 0 0,.bool false,.slice none 0 0];rcases told_cases HT.out with ⟨r,rfl,hf⟩|⟨x,rfl,hf⟩
 ·have HF:=hf;clear hf HT;go_enter Tryz.func118,Tryz.ntmps118;go_wp2_with fail;refine(HX.out _ M.bel).mono ?_;rintro e w1 ⟨⟨A1,c1,B1,d1,rfl,h1,h2⟩,q1⟩;dsimp only[qok]at h1 h2⊢;replace M:=M.below q1;go_wp2_with fail;refine(must_ok _ _ _ _ _ _ _ _ _).mono ?_;rintro e w2 ⟨rfl,q2⟩;replace M:=M.below q2;have HQ:Hid (QR w2 A1 c1 B1 d1 r):=QR.below ⟨h1,h2,HF.out.2⟩ q2;clear h1 h2 q1 q2 HX;have hro:Hid (o=some r):=HF.out.1;clear HF;generalize hn:sN r.num=rn;generalize hxs:sD r.num=rx;generalize hys:dig r.den=ry;have HN:=ZH hn;have HXs:=ZH hxs;have HYs:=ZH hys;clear hn hxs hys;go_wp2_with ((with_reducible refine st_ ?_);refine wP2 _ _ (M.k (i:=0) rfl) rfl rfl rfl rfl info_rat rfl rfl ?_;intro w4 b4 g4;obtain⟨f1,f2,f3,f4⟩:=b4.four);refine bodyPost_ret (v:=rv rn A1 rx.length c1 false B1 ry.length d1) (by simp[results,Tryz.results118,go_sem,f1,f2,f3,f4]) rfl ⟨below_own M.bel g4 (by omega),.inl ⟨r,A1,c1,B1,d1,hro.out,by unfold qv;rw[HN.out,HXs.out,HYs.out],HQ.out.boxed ((M.k (i:=0) rfl).box rfl) g4⟩⟩
 ·have HF:=hf;clear hf HT;go_enter Tryz.func118,Tryz.ntmps118;go_wp2_with fail;refine(HX.out _ M.bel).mono ?_;rintro e w1 ⟨⟨A1,c1,B1,d1,rfl,h1,h2⟩,q1⟩;dsimp only[dbad];replace M:=M.below q1;go_wp2_with fail;refine(must_bad _ _ _ _ _ _ _ _ x HF.out.2 _).mono ?_;rintro e w2 ⟨⟨v,rfl⟩,q2⟩;replace M:=M.below q2;go_wp2_with fail;exact⟨rfl,M.bel,.inr ⟨HF.out.1,v,rfl⟩⟩
theorem pmul_any {w:World}{A B A' B':Option Addr}{c d c' d':Nat}{p q:Rat}(h:QR w A c B d p)(h':QR w A' c' B' d' q):Calls Tryz.prog 119 #[qv p A c B d,qv q A' c' B' d'] w fun e w'=>RetP w w' e (mulO p q):=by
 have HX:=ZH (fun(w':World)(k:Below w.heap.size w w')=>qmul_rat (h.below k) (h'.below k));have HT:=ZH (told_fit (p*q));unfold mulO;generalize qfit (p*q)=o at*;generalize fitQ (p*q)=R at*;clear h h';unfold qv at HX⊢;generalize sN p.num=n at*;generalize sD p.num=xs at*;generalize dig p.den=ys at*;generalize sN q.num=n' at*;generalize sD q.num=xs' at*;generalize dig q.den=ys' at*;have M:=(((Mem.start w).new 72 #[.bool n,.slice A xs.length c,.bool false,.slice B ys.length d]).newAt (g:=w.heap.size+1) (by simp) 72 #[.bool n',.slice A' xs'.length c',.bool false,.slice B' ys'.length d']).newAt (g:=w.heap.size+1+1) (by simp) 72 #[.bool false,.slice none 0 0,.bool false,.slice none 0 0];rcases told_cases HT.out with ⟨r,rfl,hf⟩|⟨x,rfl,hf⟩
 ·have HF:=hf;clear hf HT;go_enter Tryz.func119,Tryz.ntmps119;go_wp2_with fail;refine(HX.out _ M.bel).mono ?_;rintro e w1 ⟨⟨A1,c1,B1,d1,rfl,h1,h2⟩,q1⟩;dsimp only[qok]at h1 h2⊢;replace M:=M.below q1;go_wp2_with fail;refine(must_ok _ _ _ _ _ _ _ _ _).mono ?_;rintro e w2 ⟨rfl,q2⟩;replace M:=M.below q2;have HQ:Hid (QR w2 A1 c1 B1 d1 r):=QR.below ⟨h1,h2,HF.out.2⟩ q2;clear h1 h2 q1 q2 HX;have hro:Hid (o=some r):=HF.out.1;clear HF;generalize hn:sN r.num=rn;generalize hxs:sD r.num=rx;generalize hys:dig r.den=ry;have HN:=ZH hn;have HXs:=ZH hxs;have HYs:=ZH hys;clear hn hxs hys;go_wp2_with ((with_reducible refine st_ ?_);refine wP2 _ _ (M.k (i:=0) rfl) rfl rfl rfl rfl info_rat rfl rfl ?_;intro w4 b4 g4;obtain⟨f1,f2,f3,f4⟩:=b4.four);refine bodyPost_ret (v:=rv rn A1 rx.length c1 false B1 ry.length d1) (by simp[results,Tryz.results119,go_sem,f1,f2,f3,f4]) rfl ⟨below_own M.bel g4 (by omega),.inl ⟨r,A1,c1,B1,d1,hro.out,by unfold qv;rw[HN.out,HXs.out,HYs.out],HQ.out.boxed ((M.k (i:=0) rfl).box rfl) g4⟩⟩
 ·have HF:=hf;clear hf HT;go_enter Tryz.func119,Tryz.ntmps119;go_wp2_with fail;refine(HX.out _ M.bel).mono ?_;rintro e w1 ⟨⟨A1,c1,B1,d1,rfl,h1,h2⟩,q1⟩;dsimp only[dbad];replace M:=M.below q1;go_wp2_with fail;refine(must_bad _ _ _ _ _ _ _ _ x HF.out.2 _).mono ?_;rintro e w2 ⟨⟨v,rfl⟩,q2⟩;replace M:=M.below q2;go_wp2_with fail;exact⟨rfl,M.bel,.inr ⟨HF.out.1,v,rfl⟩⟩
theorem told_div (p q:Rat):(∃r,divO p q=some r∧Few r∧(if q=0 then dbad 2 else fitQ (p/q))=qok r)∨(divO p q=none∧∃x:Int,x≠0∧(if q=0 then dbad 2 else fitQ (p/q))=dbad x):=by
 unfold divO;by_cases h0:q=0
 ·rw[if_pos h0,if_pos h0];exact .inr ⟨rfl,2,by decide,rfl⟩
 ·rw[if_neg h0,if_neg h0];exact told_fit (p/q)
theorem pdiv_any {w:World}{A B A' B':Option Addr}{c d c' d':Nat}{p q:Rat}(h:QR w A c B d p)(h':QR w A' c' B' d' q):Calls Tryz.prog 182 #[qv p A c B d,qv q A' c' B' d'] w fun e w'=>RetP w w' e (divO p q):=by
 have HX:=ZH (fun(w':World)(k:Below w.heap.size w w')=>qdiv_rat (h.below k) (h'.below k));have HT:=ZH (told_div p q);generalize divO p q=o at*;generalize (if q=0 then dbad 2 else fitQ (p/q))=R at*;clear h h';unfold qv at HX⊢;generalize sN p.num=n at*;generalize sD p.num=xs at*;generalize dig p.den=ys at*;generalize sN q.num=n' at*;generalize sD q.num=xs' at*;generalize dig q.den=ys' at*;have M:=(((Mem.start w).new 72 #[.bool n,.slice A xs.length c,.bool false,.slice B ys.length d]).newAt (g:=w.heap.size+1) (by simp) 72 #[.bool n',.slice A' xs'.length c',.bool false,.slice B' ys'.length d']).newAt (g:=w.heap.size+1+1) (by simp) 72 #[.bool false,.slice none 0 0,.bool false,.slice none 0 0];rcases told_cases HT.out with ⟨r,rfl,hf⟩|⟨x,rfl,hf⟩
 ·have HF:=hf;clear hf HT;go_enter Tryz.func182,Tryz.ntmps182;go_wp2_with fail;refine(HX.out _ M.bel).mono ?_;rintro e w1 ⟨⟨A1,c1,B1,d1,rfl,h1,h2⟩,q1⟩;dsimp only[qok]at h1 h2⊢;replace M:=M.below q1;go_wp2_with fail;refine(must_ok _ _ _ _ _ _ _ _ _).mono ?_;rintro e w2 ⟨rfl,q2⟩;replace M:=M.below q2;have HQ:Hid (QR w2 A1 c1 B1 d1 r):=QR.below ⟨h1,h2,HF.out.2⟩ q2;clear h1 h2 q1 q2 HX;have hro:Hid (o=some r):=HF.out.1;clear HF;generalize hn:sN r.num=rn;generalize hxs:sD r.num=rx;generalize hys:dig r.den=ry;have HN:=ZH hn;have HXs:=ZH hxs;have HYs:=ZH hys;clear hn hxs hys;go_wp2_with ((with_reducible refine st_ ?_);refine wP2 _ _ (M.k (i:=0) rfl) rfl rfl rfl rfl info_rat rfl rfl ?_;intro w4 b4 g4;obtain⟨f1,f2,f3,f4⟩:=b4.four);refine bodyPost_ret (v:=rv rn A1 rx.length c1 false B1 ry.length d1) (by simp[results,Tryz.results182,go_sem,f1,f2,f3,f4]) rfl ⟨below_own M.bel g4 (by omega),.inl ⟨r,A1,c1,B1,d1,hro.out,by unfold qv;rw[HN.out,HXs.out,HYs.out],HQ.out.boxed ((M.k (i:=0) rfl).box rfl) g4⟩⟩
 ·have HF:=hf;clear hf HT;go_enter Tryz.func182,Tryz.ntmps182;go_wp2_with fail;refine(HX.out _ M.bel).mono ?_;rintro e w1 ⟨⟨A1,c1,B1,d1,rfl,h1,h2⟩,q1⟩;dsimp only[dbad];replace M:=M.below q1;go_wp2_with fail;refine(must_bad _ _ _ _ _ _ _ _ x HF.out.2 _).mono ?_;rintro e w2 ⟨⟨v,rfl⟩,q2⟩;replace M:=M.below q2;go_wp2_with fail;exact⟨rfl,M.bel,.inr ⟨HF.out.1,v,rfl⟩⟩
theorem pneg_any {w:World}{A B:Option Addr}{c d:Nat}{p:Rat}(h:QR w A c B d p):Calls Tryz.prog 143 #[qv p A c B d] w fun e w'=>Below w.heap.size w w'∧∃A1 c1 B1 d1,e= .returned (qv (-p) A1 c1 B1 d1)∧QR w' A1 c1 B1 d1 (-p):=by
 have HX:=ZH (fun(w':World)(k:Below w.heap.size w w')=>qneg_rat (h.below k));have HF:=ZH (few_neg h.few);generalize-p=r at*;clear h;unfold qv at HX⊢;generalize sN p.num=n at*;generalize sD p.num=xs at*;generalize dig p.den=ys at*;have M:=((Mem.start w).new 72 #[.bool n,.slice A xs.length c,.bool false,.slice B ys.length d]).newAt (g:=w.heap.size+1) (by simp) 72 #[.bool false,.slice none 0 0,.bool false,.slice none 0 0];go_enter Tryz.func143,Tryz.ntmps143;go_wp2_with fail;refine(HX.out _ M.bel).mono ?_;rintro e w1 ⟨⟨A1,c1,B1,d1,rfl,h1,h2⟩,q1⟩;dsimp only[qok]at h1 h2⊢;replace M:=M.below q1;go_wp2_with fail;refine(must_ok _ _ _ _ _ _ _ _ _).mono ?_;rintro e w2 ⟨rfl,q2⟩;replace M:=M.below q2;have HQ:Hid (QR w2 A1 c1 B1 d1 r):=QR.below ⟨h1,h2,HF.out⟩ q2;clear h1 h2 q1 q2 HX;generalize hn:sN r.num=rn;generalize hxs:sD r.num=rx;generalize hys:dig r.den=ry;have HN:=ZH hn;have HXs:=ZH hxs;have HYs:=ZH hys;clear hn hxs hys;go_wp2_with ((with_reducible refine st_ ?_);refine wP2 _ _ (M.k (i:=0) rfl) rfl rfl rfl rfl info_rat rfl rfl ?_;intro w4 b4 g4;obtain⟨f1,f2,f3,f4⟩:=b4.four);refine bodyPost_ret (v:=rv rn A1 rx.length c1 false B1 ry.length d1) (by simp[results,Tryz.results143,go_sem,f1,f2,f3,f4]) rfl ⟨below_own M.bel g4 (by omega),A1,c1,B1,d1,by rw[HN.out,HXs.out,HYs.out],HQ.out.boxed ((M.k (i:=0) rfl).box rfl) g4⟩
theorem num_negK {q:Rat}:q.num<0↔q<0:=by
 rw[←Int.not_le,←Rat.not_le];exact not_congr Rat.num_nonneg
def sgnQ (q:Rat):Int:=if q=0 then 0 else if q<0 then-1 else 1
theorem sgn_parts (q:Rat):(sD q.num=[]∧sgnQ q=0)∨(sD q.num≠[]∧sN q.num=true∧sgnQ q= -1)∨(sD q.num≠[]∧sN q.num=false∧sgnQ q=1):=by
 unfold sgnQ;by_cases h0:q=0
 ·rw[if_pos h0];exact .inl ⟨sD_nil.2 (Rat.num_eq_zero.2 h0),rfl⟩
 ·rw[if_neg h0];by_cases h1:q<0
  ·rw[if_pos h1];refine .inr (.inl ⟨num_ne.2 h0,?_,rfl⟩);unfold sN;exact dT (num_negK.2 h1)
  ·rw[if_neg h1];refine .inr (.inr ⟨num_ne.2 h0,?_,rfl⟩);unfold sN;exact dF fun h=>h1 (num_negK.1 h)
theorem psign_any {w:World}{A B:Option Addr}{c d:Nat}{p:Rat}:Calls Tryz.prog 114 #[qv p A c B d] w fun e w'=>e= .returned (.int .i64 (sgnQ p))∧Below w.heap.size w w':=by
 have hs:=sgn_parts p;unfold qv;generalize sgnQ p=s at*;generalize sN p.num=n at*;generalize sD p.num=xs at*;generalize dig p.den=ys at*;have q0:=bA1 w (.cells #[.bool n,.slice A xs.length c,.bool false,.slice B ys.length d] 72);rcases hs with ⟨rfl,hs⟩|⟨hx,rfl,hs⟩|⟨hx,rfl,hs⟩
 ·have HS:=ZH hs;clear hs;go_enter Tryz.func114,Tryz.ntmps114;go_wp2_with fail;exact bodyPost_ret (v:= .int .i64 0) (by simp[results,Tryz.results114,go_sem]) rfl ⟨by rw[HS.out],q0⟩
 ·have HS:=ZH hs;have d1:((xs.length:Int)==0)=false:=eq_boolK (by have:=List.length_pos_iff.2 hx;omega);clear hs hx;go_enter Tryz.func114,Tryz.ntmps114;go_wp2_with fail;exact bodyPost_ret (v:= .int .i64 (-1)) (by simp[results,Tryz.results114,go_sem]) rfl ⟨by rw[HS.out],q0⟩
 ·have HS:=ZH hs;have d1:((xs.length:Int)==0)=false:=eq_boolK (by have:=List.length_pos_iff.2 hx;omega);clear hs hx;go_enter Tryz.func114,Tryz.ntmps114;go_wp2_with fail;exact bodyPost_ret (v:= .int .i64 1) (by simp[results,Tryz.results114,go_sem]) rfl ⟨by rw[HS.out],q0⟩
theorem pcmp_any {w:World}{A B A' B':Option Addr}{c d c' d':Nat}{p q:Rat}(h:QR w A c B d p)(h':QR w A' c' B' d' q):Calls Tryz.prog 200 #[qv p A c B d,qv q A' c' B' d'] w fun e w'=>e= .returned (.int .i64 (cmpQ p q))∧Below w.heap.size w w':=by
 have HX:=ZH (fun(w':World)(k:Below w.heap.size w w')=>qcmp_rat (h.below k) (h'.below k));generalize cmpQ p q=z at*;clear h h';unfold qv at HX⊢;generalize sN p.num=n at*;generalize sD p.num=xs at*;generalize dig p.den=ys at*;generalize sN q.num=n' at*;generalize sD q.num=xs' at*;generalize dig q.den=ys' at*;have M:=((Mem.start w).new 72 #[.bool n,.slice A xs.length c,.bool false,.slice B ys.length d]).newAt (g:=w.heap.size+1) (by simp) 72 #[.bool n',.slice A' xs'.length c',.bool false,.slice B' ys'.length d'];go_enter Tryz.func200,Tryz.ntmps200;go_wp2_with fail;refine(HX.out _ M.bel).mono ?_;rintro e w1 ⟨rfl,q1⟩;replace M:=M.below q1;go_wp2_with fail;exact bodyPost_ret (v:= .int .i64 z) (by simp[results,Tryz.results200,go_sem]) rfl ⟨rfl,M.bel⟩
end Go.Proofs.YtecfcjdgmpopjaaGreat

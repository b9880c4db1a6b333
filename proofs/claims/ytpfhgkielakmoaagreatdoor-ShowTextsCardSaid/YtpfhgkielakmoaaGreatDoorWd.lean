/-
  Joined texts: Vt, Wd.
-/
import Derived.Test.YtpfhgkielakmoaaGreatDoorVs
import Derived.Test.YtpfhgkielakmoaaGreatDoorVl
import Derived.Test.YtpfhgkielakmoaaGreatDoorPt
set_option linter.unusedSimpArgs false
set_option linter.unusedVariables false
namespace Go.Proofs.YtpfhgkielakmoaaGreatDoor
def Fine (x:It) (n:Nat):Prop:=RngI x∧(itemS x).2=true∧(itemS x).1.length≤2*n+1
def Doms (b:Bool) (d:List (Int×Int)) (n:Nat):Prop:=(∀r∈d,I64 r.1∧I64 r.2)∧∀x:It,x.bool=b→x.dom=d→(domS x).2=true∧(domS x).1.length≤2*n
def JN (d:List (Int×Int)):Nat:=(d.map fun r=>(Lib.itoa r.1).length+1).sum
theorem JN_two:∀(d:List (Int×Int)),(d.map ((fun t:List UInt8=>t.length+2)∘fun r=>Lib.itoa r.1)).sum≤2*JN d
 |[]=>Nat.zero_le _
 |r::d=>by
  have:=JN_two d;have h:JN (r::d)=(Lib.itoa r.1).length+1+JN d:=rfl;rw[List.map_cons,List.sum_cons,h];show (Lib.itoa r.1).length+2+_≤_;omega
theorem sw_domGo:∀(k:Nat) (acc:List (Int×Int)),acc.length+k≤256→(∀r∈acc,I64 r.1∧r.1=r.2)→Sw (domGo k acc) (fun d n=>(d.length≤256∧d≠[]∧∀r∈d,I64 r.1∧r.1=r.2)∧JN d≤JN acc+n)
 |0,acc,_,_=>fun l x r _ e=>by cases e
 |k+1,acc,hk,hq=>by
  refine sw_bind sw_number fun x a ⟨hx,hl⟩=>sw_bind (sw_may [125]) fun b c hc=> ?_;have h2:∀r∈acc++[(x,x)],I64 r.1∧r.1=r.2:=fun y hy=>by
   rcases List.mem_append.1 hy with hy|hy
   ·exact hq y hy
   ·rw[List.mem_singleton.1 hy];exact ⟨hx,rfl⟩
  have h3:(acc++[(x,x)]).length+k≤256:=by rw[List.length_append,List.length_singleton];omega
  have hJ:JN (acc++[(x,x)])=JN acc+((Lib.itoa x).length+1):=by
   unfold JN;rw[List.map_append,List.sum_append];rfl
  refine sw_if (fun hb=> ?_) (fun hb=> ?_)
  ·have hc1:c=1:=by
    rcases hc with hc|hc
    ·rw[hc.2];rfl
    ·rw[hc.1]at hb;exact Bool.noConfusion hb
   exact sw_ret ⟨⟨by omega,by simp,h2⟩,by omega⟩
  ·refine sw_bind (sw_take [44]) fun _ d hd=>(sw_domGo k _ h3 h2).mono fun xs n hn=>⟨hn.1,?_⟩;have hd1:d=1:=hd;have:=hn.2;omega
theorem sw_dom:Sw domP (fun d n=>Doms d.1 d.2 n):=by
 refine sw_bind (sw_may wBool) fun b c hc=>sw_if (fun hb=> ?_) (fun hb=> ?_)
 ·have hc1:c=4:=by
   rcases hc with hc|hc
   ·rw[hc.2];rfl
   ·rw[hc.1]at hb;exact Bool.noConfusion hb
  refine sw_ret ⟨fun r h=>absurd h List.not_mem_nil,fun x h1 h2=> ?_⟩;unfold domS;rw[if_pos h1];exact ⟨by rw[h2];rfl,by show 4≤_;omega⟩
 ·refine sw_bind (sw_may [123]) fun b2 c2 hc2=>sw_if (fun hb=> ?_) (fun hb=> ?_)
  ·have hc1:c2=1:=by
    rcases hc2 with hc|hc
    ·rw[hc.2];rfl
    ·rw[hc.1]at hb;exact Bool.noConfusion hb
   refine sw_bind (sw_domGo 256 [] (Nat.le_refl _) fun _ h=>absurd h List.not_mem_nil) fun d a ⟨⟨h1,h2,h3⟩,h4⟩=>sw_ret ⟨fun r hr=>⟨(h3 r hr).1,by rw[←(h3 r hr).2];exact (h3 r hr).1⟩,fun x k1 k2=> ?_⟩;have h0:JN []=0:=rfl;unfold domS;rw[if_neg (by rw[k1];exact fun h=>Bool.noConfusion h),k2];match d,h1,h2,h3,h4 with
   |[r],h1,h2,h3,h4=>
    dsimp only;refine ⟨rfl,?_⟩;have e:=(h3 r List.mem_cons_self).2;have hj:JN [r]=(Lib.itoa r.1).length+1+0:=rfl;rw[←e,List.length_append,List.length_cons,List.length_cons];omega
   |r::r2::q,h1,h2,h3,h4=>
    dsimp only;rw[if_neg (by rintro (h|h);exact h2 h;omega),if_pos (List.all_eq_true.2 fun r hr=>by rw[(h3 r hr).2];simp)];refine ⟨rfl,?_⟩;dsimp only;rw[List.length_cons,List.length_append];have hj:=join_sum (((r::r2::q).map fun r=>Lib.itoa r.1)) (by simp);rw[List.map_map]at hj;have hJ:=JN_two (r::r2::q);have h1:([125]:List UInt8).length=1:=rfl;omega
  ·refine sw_bind sw_number fun lo a ⟨h1,h2⟩=>sw_bind (sw_take [46,46]) fun _ d hd=>sw_bind sw_number fun hi e ⟨h3,h4⟩=>sw_ret ⟨fun r hr=>by rw[List.mem_singleton.1 hr];exact ⟨h1,h3⟩,fun x k1 k2=> ?_⟩;have hd1:d=2:=hd;unfold domS;rw[if_neg (by rw[k1];exact fun h=>Bool.noConfusion h),k2];dsimp only;refine ⟨rfl,?_⟩;rw[List.length_append,List.length_cons,List.length_cons];omega
theorem may_eq {b:Bool} {n m:Nat} (h:(b=true∧n=m)∨(b=false∧n=0)):n=if b then m else 0:=by
 rcases h with ⟨rfl,h⟩|⟨rfl,h⟩
 ·exact h
 ·exact h
theorem joinS_one {x:Ex} (h:(plainS x).2=true):joinS [plainS x]=((plainS x).1,true):=by
 have:=joinS_good (S:=plainS) (xs:=[x]) (by show 1≤64;omega) (fun y hy=>by rw[List.mem_singleton.1 hy];exact h);rw[show joinS [plainS x]=joinS ([x].map plainS) from rfl,this];simp[Lib.join,List.intercalate]
theorem sw_variable (k:Nat) (hk:k=3):Sw variableP (fun x n=>Fine x (k+n)):=by
 refine sw_bind sw_dom fun d a hd=>sw_bind (sw_take [58]) fun _ c1 h1=>sw_bind sw_name fun nm c2 ⟨hn,h2⟩=>sw_bind (sw_may [58,58]) fun o c3 h3=>
  sw_bind (p:=fun _ n=>n=if o then 10 else 0) (sw_if (fun hb=>by rw[hb];exact sw_take wOutVar) (fun hb=>by rw[if_neg hb];exact sw_ret rfl)) fun _ c4 h4=>
  sw_bind (sw_may [61]) fun v c5 h5=> ?_
 have h1':c1=1:=h1;have h3':=may_eq h3;have h32:([58,58]:List UInt8).length=2:=rfl;have h5':=may_eq h5;have h52:([61]:List UInt8).length=1:=rfl;rw[h32]at h3';rw[h52]at h5';have tl:∀(xs:List Ex) (m:Nat),(xs=[]∨∃x,xs=[x]∧PlainP x∧v=true∧(plainS x).1.length≤m)→Fine ⟨2,nm,d.1,d.2,0,o,xs,0⟩ (k+(a+(c1+(c2+(c3+(c4+(c5+m))))))):=by
  intro xs m hx;obtain ⟨q1,q2⟩:=hd.2 ⟨2,nm,d.1,d.2,0,o,xs,0⟩ rfl rfl;refine ⟨⟨i64_0,hd.1,fun y hy=> ?_⟩,?_,?_⟩
  ·rcases hx with rfl|⟨x,rfl,hp,_,_⟩
   ·exact absurd hy List.not_mem_nil
   ·rw[List.mem_singleton.1 hy];exact rngE_plain hp.1 hp.2.1
  ·show (varS ⟨2,nm,d.1,d.2,0,o,xs,0⟩).2=true;unfold varS;dsimp only;rw[q1,hn];rcases hx with rfl|⟨x,rfl,hp,_,_⟩
   ·rfl
   ·rw[show ([x]:List Ex).map plainS=[plainS x] from rfl,joinS_one hp.2.2.2];rfl
  ·show (varS ⟨2,nm,d.1,d.2,0,o,xs,0⟩).1.length≤_;unfold varS;dsimp only;rcases hx with rfl|⟨x,rfl,hp,hv,hl⟩
   ·simp only[List.length_append,List.isEmpty_nil,if_true];cases o with
    |true=>
     simp only[if_true]at h3' h4⊢;simp only[List.length_append,List.length_cons,List.length_nil,wOutVar]at*;omega
    |false=>
     simp only[Bool.false_eq_true,if_false]at h3' h4⊢;simp only[List.length_append,List.length_cons,List.length_nil]at*;omega
   ·rw[show ([x]:List Ex).map plainS=[plainS x] from rfl,joinS_one hp.2.2.2];subst hv;simp only[if_true]at h5';simp only[List.length_append,List.isEmpty_cons,Bool.false_eq_true,if_false];cases o with
    |true=>
     simp only[if_true]at h3' h4⊢;simp only[List.length_append,List.length_cons,List.length_nil,wOutVar]at*;omega
    |false=>
     simp only[Bool.false_eq_true,if_false]at h3' h4⊢;simp only[List.length_append,List.length_cons,List.length_nil]at*;omega
 refine sw_if (fun hb=>sw_bind sw_plain fun x m ⟨hp,hl⟩=>sw_ret (tl [x] _ (Or.inr ⟨x,rfl,hp,hb,by omega⟩))) (fun hb=>sw_ret (tl [] 0 (Or.inl rfl)))
theorem sw_truth:Sw truthP (fun b n=>(truthS b).length=n):=by
 refine sw_bind (sw_may wBool) fun b c hc=>sw_if (fun hb=> ?_) (fun hb=> ?_)
 ·have:=may_eq hc;rw[hb]at this;exact sw_ret (by rw[this];rfl)
 ·have:=may_eq hc;rw[if_neg hb]at this;exact sw_bind (sw_take wInt) fun _ d hd=>sw_ret (by rw[this,hd];rfl)
theorem truth_len (b:Bool):3≤(truthS b).length:=by cases b<;>decide
theorem fits_kind {b:Bool} {l:List Tok} (ha:AT l) (hf:fitsP b l=true) {x:Ex} {r:List Tok} (h:plainP l= .ok x r):x.k=if b then 2 else 1:=by
 cases b with
 |true=>
  have hw:isP wTrue l=true∨isP wFalse l=true:=by
   unfold fitsP at hf;rw[if_pos rfl,Bool.or_eq_true]at hf;exact hf
  have key:∀(s:List UInt8),wordP s=true→wordL s=(1,s.length)→(s=wTrue∨s=wFalse)→isP s l=true→x.k=2:=by
   intro s hwd hs ht hi;obtain ⟨t,q,rfl,hq⟩:=is_of hi;have h1:=(ha t List.mem_cons_self).1;have hk1:t.k=1:=by
    have:=h1.1;show t.k=1;have h2:wordL t.t=(t.k,t.t.length):=this;rw[hq,hs]at h2;injection h2 with h2 _;exact h2.symm
   have hk0:kindP (t::q)=0:=by
    unfold kindP;dsimp only;rw[if_pos ⟨hk1,by rw[hq];exact hwd⟩]
   unfold plainP at h;rw[hk0,if_neg (by decide),if_neg (by decide)]at h;split at h
   ·injection h with h _;rw[←h]
   ·split at h
    ·injection h with h _;rw[←h]
    ·cases h
  rcases hw with hw|hw
  ·exact key wTrue (by decide) (by decide) (Or.inl rfl) hw
  ·exact key wFalse (by decide) (by decide) (Or.inr rfl) hw
 |false=>
  unfold fitsP at hf;rw[if_neg (by decide),Bool.and_eq_true]at hf;have hk:=of_decide_eq_true hf.2;unfold plainP at h;rw[if_pos hk]at h;injection h with h _;rw[←h];rfl
theorem sw_par:Sw parP (fun x n=>Fine x n):=by
 refine sw_bind sw_truth fun b a ha=>sw_bind (sw_take [58]) fun _ c1 h1=>sw_bind sw_name fun nm c2 ⟨hn,h2⟩=>sw_bind (sw_take [61]) fun _ c3 h3=> ?_;have h1':c1=1:=h1;have h3':c3=1:=h3;have ht:=truth_len b;intro l y r hat e;dsimp only at e;split at e
 ·rename_i hf;obtain ⟨x,s,e1,e2⟩:=bind_ok e;obtain ⟨b1,n,b2,hp,hl⟩:=sw_plain l x s hat e1;have hk:=fits_kind hat hf e1;unfold pret at e2;injection e2 with e2 e3;subst e2 e3;refine ⟨b1,n,b2,⟨i64_0,(fun r h=>absurd h List.not_mem_nil),fun y hy=>by rw[List.mem_singleton.1 hy];exact rngE_plain hp.1 hp.2.1⟩,?_,?_⟩
  ·show (parS ⟨1,nm,b,[],0,false,[x],0⟩).2=true;unfold parS;dsimp only;rw[show ([x]:List Ex).map plainS=[plainS x] from rfl,joinS_one hp.2.2.2,hn,show ([x]:List Ex).map (·.k)=[x.k] from rfl,hk];simp[bareB]
  ·show (parS ⟨1,nm,b,[],0,false,[x],0⟩).1.length≤_;unfold parS;dsimp only;rw[show ([x]:List Ex).map plainS=[plainS x] from rfl,joinS_one hp.2.2.2];simp only[List.length_append,List.length_cons,List.length_nil];omega
 ·cases e
theorem sw_goal (k:Nat) (hk:k=5):Sw goalP (fun x n=>Fine x (k+n)):=by
 have hw1:wSolMin.length=15:=rfl;have hw2:(wSolve++[32]++wMaximize++[32]).length=15:=rfl;refine sw_bind (sw_may wSatisfy) fun b c hc=>sw_if (fun hb=> ?_) (fun hb=> ?_)
 ·have:=may_eq hc;rw[hb]at this;have h7:c=7:=this;exact sw_ret ⟨⟨i64_0,(fun r h=>absurd h List.not_mem_nil),fun y hy=>absurd hy List.not_mem_nil⟩,rfl,by show 14≤_;omega⟩
 ·refine sw_bind (sw_may wMinimize) fun b2 c2 hc2=>sw_if (fun hb2=> ?_) (fun hb2=> ?_)
  ·have:=may_eq hc2;rw[hb2]at this;have h7:c2=8:=this;refine sw_bind sw_name fun nm a ⟨hn,h2⟩=>sw_ret ⟨⟨i64_0,(fun r h=>absurd h List.not_mem_nil),fun y hy=>absurd hy List.not_mem_nil⟩,?_,?_⟩
   ·show (goalS ⟨6,nm,false,[],0,false,[],1⟩).2=true;unfold goalS;dsimp only;rw[if_neg (by decide),if_pos rfl,hn];rfl
   ·show (goalS ⟨6,nm,false,[],0,false,[],1⟩).1.length≤_;unfold goalS;dsimp only;rw[if_neg (by decide),if_pos rfl];dsimp only;rw[List.length_append,List.length_append,hw1];show _+1≤_;omega
  ·refine sw_bind (sw_may wMaximize) fun b3 c3 hc3=>sw_if (fun hb3=> ?_) (fun hb3=>sw_wrong);have:=may_eq hc3;rw[hb3]at this;have h7:c3=8:=this;refine sw_bind sw_name fun nm a ⟨hn,h2⟩=>sw_ret ⟨⟨i64_0,(fun r h=>absurd h List.not_mem_nil),fun y hy=>absurd hy List.not_mem_nil⟩,?_,?_⟩
   ·show (goalS ⟨6,nm,false,[],0,false,[],2⟩).2=true;unfold goalS;dsimp only;rw[if_neg (by decide),if_neg (by decide),if_pos rfl,hn];rfl
   ·show (goalS ⟨6,nm,false,[],0,false,[],2⟩).1.length≤_;unfold goalS;dsimp only;rw[if_neg (by decide),if_neg (by decide),if_pos rfl];dsimp only;rw[List.length_append,List.length_append,hw2];show _+1≤_;omega
theorem sw_con (k:Nat) (hk:k=10):Sw (pbind nameP fun nm=>pbind (takeP [40]) fun _=>pbind (exprsP [41] exprP) fun xs=>pret (⟨5,nm,false,[],0,false,xs,0⟩:It)) (fun x n=>Fine x (k+n)):=by
 refine sw_bind sw_name fun nm a ⟨hn,h2⟩=>sw_bind (sw_take [40]) fun _ c1 h1=>sw_bind (sw_exprs (S:=exprS) rfl sw_expr) fun xs m ⟨h3,h4,h5⟩=>sw_ret ⟨⟨i64_0,(fun r h=>absurd h List.not_mem_nil),fun y hy=>(h3.2 y hy).1⟩,?_,?_⟩
 ·show (conS ⟨5,nm,false,[],0,false,xs,0⟩).2=true;unfold conS;dsimp only;rw[h4,hn];rfl
 ·show (conS ⟨5,nm,false,[],0,false,xs,0⟩).1.length≤_;unfold conS;dsimp only;simp only[List.length_append,List.length_cons,List.length_nil,wConstraint];have h1':c1=1:=h1;omega
theorem sw_array (k:Nat) (hk:k=5):Sw arrayP (fun x n=>Fine x (k+n)):=by
 refine sw_bind (sw_take [91]) fun _ c1 h1=>sw_bind (sw_exact 1) fun _ c2 h2=>sw_bind (sw_take [46,46]) fun _ c3 h3=>sw_bind sw_number fun n c4 ⟨hI,h4⟩=>
  sw_bind (sw_takes [[93],wOf]) fun _ c5 h5=>sw_bind (sw_may wVar) fun v c6 h6=>sw_bind sw_truth fun b c7 h7=>sw_bind (sw_take [58]) fun _ c8 h8=>sw_bind sw_name fun nm c9 ⟨hn,h9⟩=>
  sw_bind (p:=fun o n=>(o=true→v=true)∧n=if o then 2 else 0) (sw_if (fun hb=>(sw_may [58,58]).mono fun o n h=>⟨fun _=>hb,may_eq h⟩) (fun hb=>sw_ret ⟨fun h=>Bool.noConfusion h,rfl⟩)) fun o c10 ⟨ho,h10⟩=>
  sw_bind (p:=fun _ m=>o=true→17+(Lib.itoa n).length≤m) (sw_if (fun hb=>sw_bind (sw_takes [wOutArray,[40],[91]]) fun _ d1 g1=>sw_bind (sw_exact 1) fun _ d2 g2=>sw_bind (sw_take [46,46]) fun _ d3 g3=>sw_bind (sw_exact n) fun _ d4 g4=>(sw_takes [[93],[41]]).mono fun _ m hm _=> ?_) (fun hb=>sw_ret fun h=>absurd h hb)) fun _ c11 h11=>
  sw_bind (sw_takes [[61],[91]]) fun _ c12 h12=>sw_bind (sw_exprs (S:=plainS) rfl sw_plain2) fun xs m ⟨k3,k4,k5⟩=>sw_ret ⟨⟨hI,(fun r h=>absurd h List.not_mem_nil),fun y hy=>rngE_plain (k3.2 y hy).1.1 (k3.2 y hy).1.2⟩,?_,?_⟩
 ·have e1:d1=14:=g1;have e3:d3=2:=g3;have e4:m=2:=hm;omega
 ·have hs:itemS ⟨if v then 4 else 3,nm,b,[],n,o,xs,0⟩=arrS ⟨if v then 4 else 3,nm,b,[],n,o,xs,0⟩:=by cases v<;>rfl
  rw[hs];unfold arrS;dsimp only;rw[k4,hn];cases o with
  |false=>rfl
  |true=>
   rw[ho rfl];rfl
 ·have hs:itemS ⟨if v then 4 else 3,nm,b,[],n,o,xs,0⟩=arrS ⟨if v then 4 else 3,nm,b,[],n,o,xs,0⟩:=by cases v<;>rfl
  rw[hs];have e1:c1=1:=h1;have e3:c3=2:=h3;have e5:c5=3:=h5;have e6:=may_eq h6;have e8:c8=1:=h8;have e12:c12=2:=h12;unfold arrS sizeS;dsimp only;cases v with
  |false=>
   cases o with
   |true=>exact absurd (ho rfl) (by decide)
   |false=>
    simp only[List.length_append,List.length_cons,List.length_nil,wArray,Bool.false_eq_true,if_false,Int.reduceEq]at*;omega
  |true=>
   have hv3:wVar.length=3:=rfl;cases o with
   |true=>
    have h11':=h11 rfl;simp only[List.length_append,List.length_cons,List.length_nil,wArray,wOutArray,if_true]at*;omega
   |false=>
    simp only[List.length_append,List.length_cons,List.length_nil,wArray,Bool.false_eq_true,if_true,if_false]at*;omega
theorem sw_item:Sw itemP Fine:=by
 intro l x r hat e;unfold itemP at e;split at e
 ·exact sw_par l x r hat e
 ·have hrest:Sw (pbind (mayP wVar) fun b=>if b then variableP else pbind (mayP wArray) fun b=>if b then arrayP else pbind (mayP wConstraint) fun b=>if b then (pbind nameP fun nm=>pbind (takeP [40]) fun _=>pbind (exprsP [41] exprP) fun xs=>pret (⟨5,nm,false,[],0,false,xs,0⟩:It)) else pbind (mayP wSolve) fun b=>if b then goalP else wrongP) Fine:=by
   refine sw_bind (sw_may wVar) fun b c hc=>sw_if (fun hb=>sw_variable c (by have:=may_eq hc;rw[hb]at this;exact this)) (fun hb=> ?_);have c0:c=0:=by have:=may_eq hc;rw[if_neg hb]at this;exact this
   subst c0;refine sw_bind (sw_may wArray) fun b c hc=>sw_if (fun hb=>(sw_array c (by have:=may_eq hc;rw[hb]at this;exact this)).mono fun x n h=>by rw[Nat.zero_add];exact h) (fun hb=> ?_);have c0:c=0:=by have:=may_eq hc;rw[if_neg hb]at this;exact this
   subst c0;refine sw_bind (sw_may wConstraint) fun b c hc=>sw_if (fun hb=>(sw_con c (by have:=may_eq hc;rw[hb]at this;exact this)).mono fun x n h=>by rw[Nat.zero_add,Nat.zero_add];exact h) (fun hb=> ?_);have c0:c=0:=by have:=may_eq hc;rw[if_neg hb]at this;exact this
   subst c0;exact sw_bind (sw_may wSolve) fun b c hc=>sw_if (fun hb=>(sw_goal c (by have:=may_eq hc;rw[hb]at this;exact this)).mono fun x n h=>by rw[Nat.zero_add,Nat.zero_add,Nat.zero_add];exact h) (fun hb=>sw_wrong)
  exact hrest l x r hat e
theorem textS_snoc (acc:List It) (x:It):(textS (acc++[x])).length=(textS acc).length+((itemS x).1.length+1):=by
 rw[textS_app,List.length_append];unfold textS;rw[List.flatMap_cons,List.flatMap_nil,List.append_nil,List.length_append];rfl
theorem sw_all:∀(k:Nat) (acc:List It),(∀x∈acc,∃n,Fine x n)→Sw (allGo k acc) (fun ys n=>(∀x∈ys,∃n,Fine x n)∧(textS ys).length≤(textS acc).length+2*n)
 |k,acc,hq=>fun l ys r hat e=>by
  cases l with
  |nil=>
   rw[allGo_nil]at e;injection e with e1 e2;subst e1 e2;exact ⟨hat,0,by omega,hq,by omega⟩
  |cons t l=>
   cases k with
   |zero=>cases e
   |succ k=>
    rw[allGo_cons]at e;obtain ⟨x,s,h1,h2⟩:=bind_ok e;obtain ⟨u,s2,h3,h4⟩:=bind_ok h2;obtain ⟨a1,n,a2,a3⟩:=sw_item _ x s hat h1;obtain ⟨b1,m,b2,b3⟩:=sw_take [59] _ u s2 a1 h3;have hm:m=1:=b3;obtain ⟨d1,p,d2,d3,d4⟩:=sw_all k (acc++[x]) (fun y hy=>by
     rcases List.mem_append.1 hy with hy|hy
     ·exact hq y hy
     ·rw[List.mem_singleton.1 hy];exact ⟨n,a3⟩) s2 ys r b1 h4
    refine ⟨d1,n+(m+p),by omega,d3,?_⟩;rw[textS_snoc]at d4;have:=a3.2.2;omega
theorem Sp.len {s:List UInt8} {ts:List T3} (h:Sp s ts):ts.length≤s.length:=by
 induction h with
 |nil=>exact Nat.le_refl _
 | @no x s ts h g t ih=>
  have h1:=(alone_blank h s).1;have h2:0<x.2.1.length:=List.length_pos_iff.2 h1;rw[List.length_cons,List.length_append];omega
 | @sp x s ts h t ih=>
  rw[List.length_cons,List.length_append,List.length_cons];omega
 | @lf x s ts h t ih=>
  rw[List.length_cons,List.length_append,List.length_cons];omega
theorem parse_fine {s:List UInt8} (hAT:AT (splitR s).1) (h:(textP s).2.2=0):∀x∈(textP s).1,RngI x∧(itemS x).2=true:=by
 obtain ⟨hsp,r,ha⟩:=textP_split h;obtain ⟨_,n,h1,h2,h3⟩:=sw_all 512 [] (fun _ h=>absurd h List.not_mem_nil) _ _ _ hAT ha;intro x hx;obtain ⟨m,hf⟩:=h2 x hx;exact ⟨hf.1,hf.2.1⟩
end Go.Proofs.YtpfhgkielakmoaaGreatDoor
set_option linter.unusedSimpArgs false
set_option linter.unusedVariables false
namespace Go.Proofs.YtpfhgkielakmoaaGreatDoor
open Go.RowKit Num Go.Joins
theorem rngE_flat {y:Ex} (h:RngE y):RngE y.flat:=⟨h.1,fun z hz=>by
 obtain ⟨u,hu,rfl⟩:=List.mem_map.1 hz;exact h.2 u hu⟩
theorem rngI_flat {x:It} (h:RngI x):RngI x.flat:=⟨h.1,h.2.1,fun z hz=>by
 obtain ⟨u,hu,rfl⟩:=List.mem_map.1 hz;exact rngE_flat (h.2.2 u hu)⟩
theorem lowE_unflat {y:Ex} (h:LowE y.flat):y.flat=y:=by
 obtain ⟨k,n,s,l⟩:=y;show Ex.mk k n s (l.map Ex0.flat)=_;congr 1;have h2:∀z∈l,Ex0.flat z=z:=fun z hz=>by
  have:=h.2 z.flat (List.mem_map_of_mem hz);obtain ⟨a,b,c,m⟩:=z;have hm:(if m=0 then 0 else 1)=0:=this;have hm0:m=0:=by
   by_cases h0:m=0
   ·exact h0
   ·rw[if_neg h0]at hm;cases hm
  subst hm0;rfl
 rw[List.map_congr_left h2,List.map_id']
theorem lowI_unflat {x:It} (h:LowI x.flat):x.flat=x:=by
 obtain ⟨k,nm,b,d,z,o,v,a⟩:=x;show It.mk k nm b d z o (v.map Ex.flat) a=_;congr 1;rw[List.map_congr_left fun y hy=>lowE_unflat (h.2.2 y.flat (List.mem_map_of_mem hy)),List.map_id']
theorem few_lens {l:List It} (h:∀x∈l,FewP x):∀x∈l,x.vals.length≤10000∧∀y∈x.vals,y.l.length≤10000:=fun x hx=>⟨by have:=(h x hx).2.1;omega,fun y hy=>by have:=((h x hx).2.2.2 y hy).2.1;omega⟩
theorem all_show {F : Nat → Prop} (A : Option Addr) (c : Nat) (l : List It) (w0 w : World) (hE : Env w) (h0 : (layI 28 50).row.P F w0 (.slice A l.length c) l) (hw0 : Below w0.heap.size w0 w) (hr : ∀ x ∈ l, RngI x) (hn : l.length ≤ 1000) (hf : ∀ x ∈ l, FewP x) :
    Calls Tryz.prog 10 #[.slice A l.length c] w fun e w' => (∃ B d, e = .returned (.slice B (l.map It.flat).length d) ∧ (layIat w0 F 47 102).own w.heap.size w' (.slice B (l.map It.flat).length d) (l.map It.flat) ∧
      Calls Tryz.prog 9 #[.slice B (l.map It.flat).length d] w' fun e2 w2 => e2 = .returned (TEV (showL (l.map It.flat))) ∧ Below w'.heap.size w' w2) ∧ Below w.heap.size w w' := by
  refine (all_items A c l w0 w h0 hw0 (by omega) (few_lens hf)).mono ?_
  rintro e w1 ⟨⟨v, rfl, ho⟩, q⟩
  obtain ⟨B, d, hv⟩ := Lay.own_len ho
  subst hv
  refine ⟨⟨B, d, rfl, ho, ?_⟩, q⟩
  refine vshow_any B d (l.map It.flat) w1 (hE.below q) (row_now (Lay.own_row ho) (hw0.trans (q.mono hw0.size))) (fun x hx => ?_) (fun x hx => ?_)
  · obtain ⟨y, hy, rfl⟩ := List.mem_map.1 hx
    exact rngI_flat (hr y hy)
  · obtain ⟨y, hy, rfl⟩ := List.mem_map.1 hx
    have := (hf y hy).1
    show y.name.length ≤ 10000
    omega
end Go.Proofs.YtpfhgkielakmoaaGreatDoor

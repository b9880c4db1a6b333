/-
  Joined texts: Vh, Pl.
-/
import Derived.Test.YtpfhgkielakmoaaGreatDoorVf
import Derived.Test.YtpfhgkielakmoaaGreatDoorDab
/-
  Joined texts: Vg, Vh.
-/
set_option linter.unusedSimpArgs false
set_option linter.unusedVariables false
namespace Go.Proofs.YtpfhgkielakmoaaGreatDoor
theorem num_not {n:Int} (h:I64 n) {s:List UInt8} (hs:(wordL s).1≠2):Lib.itoa n≠s:=fun e=>by
 have h1:=(itoa_alone n h.1 h.2).1;rw[show (2,Lib.itoa n,n).2.1=s from e]at h1;exact hs (by rw[h1])
theorem Spk.nums {ns:List Int} (h:∀n∈ns,I64 n):Spk (Lib.join (ns.map Lib.itoa) [44,32]) (inter aComma (ns.map fun n=>[aN n])):=by
 have:=Spk.join (l:=ns.map fun n=>(Lib.itoa n,[aN n])) (fun g hg=>by
  obtain ⟨n,hn,rfl⟩:=List.mem_map.1 hg;exact Spk.one (x:=aN n) (itoa_alone n (h n hn).1 (h n hn).2))
 simpa[List.map_map,Function.comp_def]using this
theorem domGo_of:∀(ns:List Int) (acc:List (Int×Int)) (k:Nat),ns≠[]→ns.length≤k→∀r,domGo k acc (inter (bare aComma) (ns.map fun n=>[bare (aN n)])++bare (aS 125)::r)= .ok (acc++ns.map fun n=>(n,n)) r
 |[],_,_,h,_,_=>absurd rfl h
 |[n],acc,k,_,hk,r=>by
  obtain ⟨j,rfl⟩:∃j,k=j+1:=⟨k-1,by simp at hk;omega⟩;show pbind numberP _ (bare (aN n)::bare (aS 125)::r)=_;rw[bind_of (number_of n _),bind_of (may_yes (s:=[125]) (t:=bare (aS 125)) rfl)];rfl
 |n::m::q,acc,k,_,hk,r=>by
  obtain ⟨j,rfl⟩:∃j,k=j+1:=⟨k-1,by simp at hk;omega⟩;have ih:=domGo_of (m::q) (acc++[(n,n)]) j (by simp) (by simp at hk⊢;omega) r;show pbind numberP _ (bare (aN n)::bare aComma::(inter (bare aComma) ((m::q).map fun n=>[bare (aN n)])++bare (aS 125)::r))=_;rw[bind_of (number_of n _),bind_of (may_no (s:=[125]) (t:=bare aComma) (by decide)),if_neg (by decide),bind_of (take_yes (s:=[44]) (t:=bare aComma) rfl),ih];simp
def domT (x:It):List T3:=
 if x.bool=true then [aW wBool]
 else match x.dom with
  |[r]=>[aN r.1,aDots,aN r.2]
  |d=>aS 123::(inter aComma (d.map fun r=>[aN r.1])++[aS 125])
theorem dom_ok {x:It} (hr:∀r∈x.dom,I64 r.1∧I64 r.2) (h:(domS x).2=true):x.dom.length≤256∧(∀s us,Sp (58::s) us→Sp ((domS x).1++58::s) (domT x++us))∧∀r,domP ((domT x).map bare++r)= .ok (x.bool,x.dom) r:=by
 obtain ⟨k,nm,b,d,z,o,v,a⟩:=x;unfold domS at h⊢;unfold domT;dsimp only at h hr⊢;cases b with
 |true=>
  rw[if_pos rfl]at h⊢;rw[if_pos rfl];have hd:d=[]:=by simpa using h
  subst hd;refine ⟨Nat.zero_le _,fun s us hs=>sp_word (alone_word (by decide)) (by decide) hs,fun r=> ?_⟩;unfold domP;show pbind (mayP wBool) _ (bare (aW wBool)::r)=_;rw[bind_of (may_yes (s:=wBool) (t:=bare (aW wBool)) rfl)];rfl
 |false=>
  rw[if_neg (by decide)]at h⊢;rw[if_neg (by decide)];match d,hr,h with
  |[r],hr,_=>
   obtain ⟨h1,h2⟩:=hr r List.mem_cons_self;refine ⟨by simp,fun s us hs=> ?_,fun q=> ?_⟩
   ·have:=sp_num h1 (c:=46) (by decide) (sp_dots (sp_num h2 (c:=58) (by decide) hs));simpa using this
   ·unfold domP;show pbind (mayP wBool) _ (bare (aN r.1)::bare aDots::bare (aN r.2)::q)=_;rw[bind_of (may_no (s:=wBool) (t:=bare (aN r.1)) (num_not h1 (by decide))),if_neg (by decide),bind_of (may_no (s:=[123]) (t:=bare (aN r.1)) (num_not h1 (by decide))),if_neg (by decide),bind_of (number_of r.1 _),bind_of (take_yes (s:=[46,46]) (t:=bare aDots) rfl),bind_of (number_of r.2 _)];rfl
  |[],hr,h=>
   simp at h
  |r::r'::d,hr,h=>
   dsimp only at h⊢;by_cases h1:r::r'::d=[]∨256<(r::r'::d).length
   ·rw[if_pos h1]at h;cases h
   ·rw[if_neg h1]at h⊢;by_cases h2:(r::r'::d).all (fun r=>r.1==r.2)=true
    ·rw[if_pos h2];have hlen:(r::r'::d).length≤256:=by
      rcases Nat.lt_or_ge 256 (r::r'::d).length with h|h
      ·exact absurd (Or.inr h) h1
      ·exact h
     generalize hd:r::r'::d=D at*;have hne:D≠[]:=by rw[←hd];simp
     refine ⟨hlen,fun s us hs=> ?_,fun q=> ?_⟩
     ·have e1:=Spk.nums (ns:=D.map (·.1)) (fun n hn=>by
       obtain ⟨y,hy,rfl⟩:=List.mem_map.1 hn;exact (hr y hy).1)
      have e2:=e1 (125::58::s) _ ⟨125,_,rfl,Or.inr (Or.inr (Or.inr (Or.inr rfl)))⟩ (sp_sign (by decide) (by decide) hs);have e3:=sp_sign (c:=123) (by decide) (by decide) e2;simpa[List.map_map,Function.comp_def]using e3
     ·have e4:(aS 123::(inter aComma (D.map fun r=>[aN r.1])++[aS 125])).map bare++q=bare (aS 123)::(inter (bare aComma) ((D.map (·.1)).map fun n=>[bare (aN n)])++bare (aS 125)::q):=by
       rw[List.map_cons,List.map_append,inter_map];simp[List.map_map,Function.comp_def]
      rw[e4];unfold domP;rw[bind_of (may_no (s:=wBool) (t:=bare (aS 123)) (by decide)),if_neg (by decide),bind_of (may_yes (s:=[123]) (t:=bare (aS 123)) rfl),if_pos rfl,bind_of (domGo_of (D.map (·.1)) [] 256 (by simpa using hne) (by simpa using hlen) q)];show PR.ok (false,[]++(D.map (·.1)).map fun n=>(n,n)) q=_;congr 2;rw[List.nil_append,List.map_map];rw[List.map_congr_left (g:=id) fun y hy=>by
       have:=List.all_eq_true.1 h2 y hy;obtain ⟨y1,y2⟩:=y;have:y1=y2:=by simpa using this
       subst this;rfl]
      simp
    ·rw[if_neg h2]at h;cases h
def varT (x:It):List T3:=aW wVar::(domT x++aS 58::aW x.name::((if x.out then [aCC,aW wOutVar] else [])++((if x.vals.isEmpty then [] else aS 61::V x)++[aS 59])))
theorem var_ok {x:It} (hk:x.k=2) (hr:RngI x) (h:(varS x).2=true):LowI x∧(∀s us,Sp s us→Sp ((varS x).1++10::s) (varT x++us))∧∀r,itemP ((varT x).map bare++r)= .ok x (bare (aS 59)::r):=by
 unfold varS at h⊢;dsimp only at h⊢;obtain ⟨h0,h1,h2,h3,h4,h5⟩:(domS x).2=true∧(joinS (x.vals.map plainS)).2=true∧x.vals.length≤1∧x.size=0∧x.ask=0∧nameB x.name=true:=by simpa[Bool.and_eq_true]using h
 obtain ⟨hnm,_⟩:=nameB_iff.1 h5;have hn:∀y∈x.vals,I64 y.n:=fun y hy=>(hr.2.2 y hy).1;obtain ⟨p1,p2,p3,_⟩:=plains_ok hn h1;obtain ⟨d1,d2,d3⟩:=dom_ok hr.2.1 h0;refine ⟨⟨d1,p1,fun z hz=>lowE_nil (p2 z hz)⟩,fun s us hs=> ?_,fun r=> ?_⟩
 ·-- behind the name, or behind output_var
  have tail:∀w,Alone (aW w)→Sp (w++((if x.vals.isEmpty then [] else [32,61,32]++(joinS (x.vals.map plainS)).1)++59::10::s)) (aW w::((if x.vals.isEmpty then [] else aS 61::V x)++aS 59::us)):=fun w hw=>by
   cases hv:x.vals.isEmpty with
   |true=>exact sp_word hw (c:=59) (by decide) (sp_end hs)
   |false=>
    have e1:=p3 (59::10::s) _ ⟨59,_,rfl,Or.inr (Or.inr (Or.inr (Or.inl rfl)))⟩ (sp_end hs);have e2:=sp_word_sp hw (sp_sign_sp (c:=61) (by decide) e1);simpa[V]using e2
  have mid:Sp (x.name++((if x.out then [32,58,58,32]++wOutVar else [])++((if x.vals.isEmpty then [] else [32,61,32]++(joinS (x.vals.map plainS)).1)++59::10::s))) (aW x.name::((if x.out then [aCC,aW wOutVar] else [])++((if x.vals.isEmpty then [] else aS 61::V x)++aS 59::us))):=by
   cases x.out with
   |false=>exact tail _ hnm.1
   |true=>
    have e1:=tail wOutVar (alone_word (by decide));have e2:=sp_word_sp hnm.1 (sp_cc e1);simpa using e2
  have e3:=sp_word_sp (w:=wVar) (alone_word (by decide)) (d2 _ _ (sp_sign_sp (c:=58) (by decide) mid));simpa[varT,wVar]using e3
 ·have e0:(varT x).map bare++r=bare (aW wVar)::((domT x).map bare++(bare (aS 58)::bare (aW x.name)::((if x.out then [bare aCC,bare (aW wOutVar)] else [])++((if x.vals.isEmpty then [] else bare (aS 61)::(V x).map bare)++bare (aS 59)::r)))):=by
   unfold varT;cases x.out<;>cases x.vals.isEmpty<;>simp
  rw[e0];unfold itemP;rw[if_neg (by rw[isP_cons,isP_cons];decide),bind_of (may_yes (s:=wVar) (t:=bare (aW wVar)) rfl),if_pos rfl];unfold variableP;rw[bind_of (d3 _),bind_of (take_yes (s:=[58]) (t:=bare (aS 58)) rfl),bind_of (name_of hnm _)];have hval:∀o:Bool,(pbind (mayP [61]) fun v=>if v=true then pbind plainP fun y=>pret (⟨2,x.name,x.bool,x.dom,0,o,[y],0⟩:It) else pret ⟨2,x.name,x.bool,x.dom,0,o,[],0⟩) ((if x.vals.isEmpty then [] else bare (aS 61)::(V x).map bare)++bare (aS 59)::r)= .ok ⟨2,x.name,x.bool,x.dom,0,o,x.vals,0⟩ (bare (aS 59)::r):=fun o=>by
   cases hv:x.vals with
   |nil=>
    show pbind (mayP [61]) _ (bare (aS 59)::r)=_;rw[bind_of (may_no (s:=[61]) (t:=bare (aS 59)) (by decide))];rfl
   |cons y q=>
    have hq:q=[]:=by
     rw[hv]at h2;simp at h2;exact h2
    subst hq;have hyS:(plainS y).2=true:=(joinS_ok (tx_eq h1)).2.1 _ (List.mem_map.2 ⟨y,by rw[hv];exact List.mem_cons_self,rfl⟩);obtain ⟨y1,y2,⟨t,y3,y4⟩,y5⟩:=plain_ok (hn y (by rw[hv];exact List.mem_cons_self)) hyS;have hV:(V x).map bare=[t]:=by
     unfold V;rw[hv];exact y3
    rw[hV];show pbind (mayP [61]) _ (bare (aS 61)::t::bare (aS 59)::r)=_;rw[bind_of (may_yes (s:=[61]) (t:=bare (aS 61)) rfl),if_pos rfl];have:=y5 (bare (aS 59)::r);rw[y3]at this;rw[bind_of (show plainP (t::bare (aS 59)::r)=_ from this)];rfl
  have hno:∀q,(if x.vals.isEmpty then [] else bare (aS 61)::(V x).map bare)++bare (aS 59)::r=q→∃t u,q=t::u∧t.t≠[58,58]:=fun q e=>by
   subst e;cases x.vals.isEmpty with
   |true=>exact ⟨bare (aS 59),r,rfl,by decide⟩
   |false=>exact ⟨bare (aS 61),_,rfl,by decide⟩
  have fin:∀o,x.out=o→PR.ok (⟨2,x.name,x.bool,x.dom,0,o,x.vals,0⟩:It) (bare (aS 59)::r)= .ok x (bare (aS 59)::r):=fun o ho=>by
   obtain ⟨k,nm,b,d,z,o',v,a⟩:=x;dsimp only at hk h3 h4 ho;subst hk h3 h4 ho;rfl
  cases ho:x.out with
  |true=>
   rw[if_pos rfl];show pbind (mayP [58,58]) _ (bare aCC::bare (aW wOutVar)::_)=_;rw[bind_of (may_yes (s:=[58,58]) (t:=bare aCC) rfl),if_pos rfl,bind_of (take_yes (s:=wOutVar) (t:=bare (aW wOutVar)) rfl)];exact (hval true).trans (fin true ho)
  |false=>
   rw[if_neg (by decide),List.nil_append];obtain ⟨t,u,e1,e2⟩:=hno _ rfl;rw[e1,bind_of (may_no e2),if_neg (by decide)];rw[bind_of (pret_eq () (t::u)),←e1];exact (hval false).trans (fin false ho)
end Go.Proofs.YtpfhgkielakmoaaGreatDoor
set_option linter.unusedSimpArgs false
set_option linter.unusedVariables false
namespace Go.Proofs.YtpfhgkielakmoaaGreatDoor
def conT (x:It):List T3:=aW wConstraint::aW x.name::aS 40::(inter aComma (x.vals.map exprT)++[aS 41,aS 59])
theorem con_ok {x:It} (hk:x.k=5) (hr:RngI x) (h:(conS x).2=true):LowI x∧(∀s us,Sp s us→Sp ((conS x).1++10::s) (conT x++us))∧∀r,itemP ((conT x).map bare++r)= .ok x (bare (aS 59)::r):=by
 unfold conS at h⊢;dsimp only at h⊢;obtain ⟨h1,h2,h3,h5⟩:(joinS (x.vals.map exprS)).2=true∧bareB x=true∧x.bool=false∧nameB x.name=true:=by simpa[Bool.and_eq_true]using h
 obtain ⟨hnm,_⟩:=nameB_iff.1 h5;obtain ⟨b1,b2,b3,b4⟩:=bare_of h2;obtain ⟨p1,p2,p3,p4⟩:=exprs_ok hr.2.2 h1;refine ⟨⟨by rw[b1];exact Nat.zero_le _,p1,p2⟩,fun s us hs=> ?_,fun r=> ?_⟩
 ·have e1:=p3 (41::59::10::s) _ ⟨41,_,rfl,Or.inr (Or.inl rfl)⟩ (sp_sign (c:=41) (by decide) (by decide) (sp_end hs));have e2:=sp_word_sp (w:=wConstraint) (alone_word (by decide)) (sp_word hnm.1 (c:=40) (by decide) (sp_sign (c:=40) (by decide) (by decide) e1));simpa[conT]using e2
 ·have e0:(conT x).map bare++r=bare (aW wConstraint)::bare (aW x.name)::bare (aS 40)::((inter aComma (x.vals.map exprT)).map bare++bare (aS 41)::bare (aS 59)::r):=by
   unfold conT;simp
  rw[e0];unfold itemP;rw[if_neg (by rw[isP_cons,isP_cons];decide),bind_of (may_no (s:=wVar) (t:=bare (aW wConstraint)) (by decide)),if_neg (by decide),bind_of (may_no (s:=wArray) (t:=bare (aW wConstraint)) (by decide)),if_neg (by decide),
   bind_of (may_yes (s:=wConstraint) (t:=bare (aW wConstraint)) rfl),if_pos rfl,bind_of (name_of hnm _),bind_of (take_yes (s:=[40]) (t:=bare (aS 40)) rfl),bind_of (p4 (bare (aS 41)) (bare (aS 59)::r) rfl)]
  obtain ⟨k,nm,b,d,z,o,v,a⟩:=x;dsimp only at hk h3 b1 b2 b3 b4;subst hk h3 b1 b2 b3 b4;rfl
def goalT (x:It):List T3:=aW wSolve::((if x.ask=0 then [aW wSatisfy] else if x.ask=1 then [aW wMinimize,aW x.name] else [aW wMaximize,aW x.name])++[aS 59])
theorem goal_ok {x:It} (hk:x.k=6) (hr:RngI x) (h:(goalS x).2=true):LowI x∧(∀s us,Sp s us→Sp ((goalS x).1++10::s) (goalT x++us))∧∀r,itemP ((goalT x).map bare++r)= .ok x (bare (aS 59)::r):=by
 obtain ⟨k,nm,b,d,z,o,v,a⟩:=x;dsimp only at hk;subst hk;unfold goalS at h⊢;unfold goalT;dsimp only at h⊢;have hitem:∀l,itemP (bare (aW wSolve)::l)=goalP l:=fun l=>by
  unfold itemP;rw[if_neg (by rw[isP_cons,isP_cons];decide),bind_of (may_no (s:=wVar) (t:=bare (aW wSolve)) (by decide)),if_neg (by decide),bind_of (may_no (s:=wArray) (t:=bare (aW wSolve)) (by decide)),if_neg (by decide),
   bind_of (may_no (s:=wConstraint) (t:=bare (aW wSolve)) (by decide)),if_neg (by decide),bind_of (may_yes (s:=wSolve) (t:=bare (aW wSolve)) rfl),if_pos rfl]
 by_cases a0:a=0
 ·subst a0;rw[if_pos rfl]at h⊢;rw[if_pos rfl];obtain ⟨⟨h1,h2,h3⟩,h4,h5,h6⟩:(d=[]∧z=0∧o=false)∧b=false∧v=[]∧nm=[]:=by simpa[Bool.and_eq_true]using h
  subst h1 h2 h3 h4 h5 h6;refine ⟨⟨Nat.zero_le _,Nat.zero_le _,fun _ h=>absurd h List.not_mem_nil⟩,fun s us hs=> ?_,fun r=> ?_⟩
  ·have e2:=sp_word_sp (w:=wSolve) (alone_word (by decide)) (sp_word (w:=wSatisfy) (alone_word (by decide)) (c:=59) (by decide) (sp_end hs));simpa using e2
  ·show itemP (bare (aW wSolve)::bare (aW wSatisfy)::bare (aS 59)::r)=_;rw[hitem];unfold goalP;rw[bind_of (may_yes (s:=wSatisfy) (t:=bare (aW wSatisfy)) rfl)];rfl
 ·rw[if_neg a0]at h⊢;rw[if_neg a0];by_cases a1:a=1
  ·subst a1;rw[if_pos rfl]at h⊢;rw[if_pos rfl];obtain ⟨⟨h1,h2,h3⟩,h4,h5,h6⟩:(d=[]∧z=0∧o=false)∧b=false∧v=[]∧nameB nm=true:=by simpa[Bool.and_eq_true]using h
   subst h1 h2 h3 h4 h5;obtain ⟨hnm,_⟩:=nameB_iff.1 h6;refine ⟨⟨Nat.zero_le _,Nat.zero_le _,fun _ h=>absurd h List.not_mem_nil⟩,fun s us hs=> ?_,fun r=> ?_⟩
   ·have e2:=sp_word_sp (w:=wSolve) (alone_word (by decide)) (sp_word_sp (w:=wMinimize) (alone_word (by decide)) (sp_word hnm.1 (c:=59) (by decide) (sp_end hs)));simpa[wSolMin,wSolve,wMinimize]using e2
   ·show itemP (bare (aW wSolve)::bare (aW wMinimize)::bare (aW nm)::bare (aS 59)::r)=_;rw[hitem];unfold goalP;rw[bind_of (may_no (s:=wSatisfy) (t:=bare (aW wMinimize)) (by decide)),if_neg (by decide),bind_of (may_yes (s:=wMinimize) (t:=bare (aW wMinimize)) rfl),if_pos rfl,bind_of (name_of hnm _)];rfl
  ·rw[if_neg a1]at h⊢;rw[if_neg a1];by_cases a2:a=2
   ·subst a2;rw[if_pos rfl]at h⊢;obtain ⟨⟨h1,h2,h3⟩,h4,h5,h6⟩:(d=[]∧z=0∧o=false)∧b=false∧v=[]∧nameB nm=true:=by simpa[Bool.and_eq_true]using h
    subst h1 h2 h3 h4 h5;obtain ⟨hnm,_⟩:=nameB_iff.1 h6;refine ⟨⟨Nat.zero_le _,Nat.zero_le _,fun _ h=>absurd h List.not_mem_nil⟩,fun s us hs=> ?_,fun r=> ?_⟩
    ·have e2:=sp_word_sp (w:=wSolve) (alone_word (by decide)) (sp_word_sp (w:=wMaximize) (alone_word (by decide)) (sp_word hnm.1 (c:=59) (by decide) (sp_end hs)));simpa using e2
    ·show itemP (bare (aW wSolve)::bare (aW wMaximize)::bare (aW nm)::bare (aS 59)::r)=_;rw[hitem];unfold goalP;rw[bind_of (may_no (s:=wSatisfy) (t:=bare (aW wMaximize)) (by decide)),if_neg (by decide),bind_of (may_no (s:=wMinimize) (t:=bare (aW wMaximize)) (by decide)),if_neg (by decide),bind_of (may_yes (s:=wMaximize) (t:=bare (aW wMaximize)) rfl),if_pos rfl,bind_of (name_of hnm _)];rfl
   ·rw[if_neg a2]at h;cases h
def sizeT (x:It):List T3:=[aS 91,aN 1,aDots,aN x.size,aS 93]
def arrT (x:It):List T3:=aW wArray::(sizeT x++aW wOf::((if x.k=4 then [aW wVar] else [])++aW (truthS x.bool)::aS 58::aW x.name::((if x.out then aCC::aW wOutArray::aS 40::(sizeT x++[aS 41]) else [])++aS 61::aS 91::(V x++[aS 93,aS 59]))))
theorem size_sp {x:It} (h:I64 x.size) {c:UInt8} {s:List UInt8} {us:List T3} (hs:Sp s us):Sp (sizeS x++s) (sizeT x++us):=by
 have h1:=sp_sign (c:=93) (by decide) (by decide) hs;have h2:=sp_num (n:=1) ⟨by decide,by decide⟩ (c:=46) (by decide) (sp_dots (sp_num h (c:=93) (by decide) h1));rw[itoa_1]at h2;have h3:=sp_sign (c:=91) (by decide) (by decide) h2;simpa[sizeS,sizeT]using h3
theorem size_sp_sp {x:It} (h:I64 x.size) {s:List UInt8} {us:List T3} (hs:Sp s us):Sp (sizeS x++32::s) (sizeT x++us):=by
 have g1:=sp_sign_sp (c:=93) (by decide) hs;have g2:=sp_num (n:=1) ⟨by decide,by decide⟩ (c:=46) (by decide) (sp_dots (sp_num h (c:=93) (by decide) g1));rw[itoa_1]at g2;have g3:=sp_sign (c:=91) (by decide) (by decide) g2;simpa[sizeS,sizeT]using g3
theorem takes_of {s:List UInt8} {ss:List (List UInt8)} {t:Tok} {l:List Tok} (h:t.t=s):takesP (s::ss) (t::l)=takesP ss l:=by
 show pbind (takeP s) _ _=_;rw[bind_of (take_yes h)]
theorem arr_end {x:It} {r:List Tok} (p4:∀(e:Tok) (c:UInt8) (r:List Tok),isSign c=true→c≠44→e.t=[c]→exprsP [c] plainP ((V x).map bare++e::r)= .ok x.vals r) (k:Int) (o:Bool):(pbind (takesP [[61],[91]]) fun _=>pbind (exprsP [93] plainP) fun xs=>pret (⟨k,x.name,x.bool,[],x.size,o,xs,0⟩:It)) (bare (aS 61)::bare (aS 91)::((V x).map bare++bare (aS 93)::bare (aS 59)::r))= .ok ⟨k,x.name,x.bool,[],x.size,o,x.vals,0⟩ (bare (aS 59)::r):=by
 have h1:takesP [[61],[91]] (bare (aS 61)::bare (aS 91)::((V x).map bare++bare (aS 93)::bare (aS 59)::r))= .ok () ((V x).map bare++bare (aS 93)::bare (aS 59)::r):=by
  rw[takes_of (s:=[61]) (t:=bare (aS 61)) rfl,takes_of (s:=[91]) (t:=bare (aS 91)) rfl];rfl
 rw[bind_of h1,bind_of (p4 (bare (aS 93)) 93 (bare (aS 59)::r) (by decide) (by decide) rfl)];rfl
theorem arr_ok {x:It} (hk:x.k=3∨x.k=4) (hr:RngI x) (h:(arrS x).2=true):LowI x∧(∀s us,Sp s us→Sp ((arrS x).1++10::s) (arrT x++us))∧∀r,itemP ((arrT x).map bare++r)= .ok x (bare (aS 59)::r):=by
 unfold arrS at h⊢;dsimp only at h⊢;obtain ⟨h1,h2,h3,h4,h5⟩:(joinS (x.vals.map plainS)).2=true∧x.dom=[]∧x.ask=0∧(x.out=false∨x.k=4)∧nameB x.name=true:=by simpa[Bool.and_eq_true]using h
 obtain ⟨hnm,_⟩:=nameB_iff.1 h5;have hn:∀y∈x.vals,I64 y.n:=fun y hy=>(hr.2.2 y hy).1;obtain ⟨p1,p2,p3,p4⟩:=plains_ok hn h1;refine ⟨⟨by rw[h2];exact Nat.zero_le _,p1,fun z hz=>lowE_nil (p2 z hz)⟩,fun s us hs=> ?_,fun r=> ?_⟩
 ·have e1:=p3 (93::59::10::s) _ ⟨93,_,rfl,Or.inr (Or.inr (Or.inl rfl))⟩ (sp_sign (c:=93) (by decide) (by decide) (sp_end hs));have e2:=sp_sign_sp (c:=61) (by decide) (sp_sign (c:=91) (by decide) (by decide) e1);have e3:Sp (x.name++((if x.out then [32,58,58,32]++wOutArray++[40]++sizeS x++[41] else [])++32::61::32::91::((joinS (x.vals.map plainS)).1++93::59::10::s))) (aW x.name::((if x.out then aCC::aW wOutArray::aS 40::(sizeT x++[aS 41]) else [])++aS 61::aS 91::(V x++aS 93::aS 59::us))):=by
   cases x.out with
   |false=>exact sp_word_sp hnm.1 e2
   |true=>
    have q1:=size_sp (x:=x) (c:=0) hr.1 (sp_sign_sp (c:=41) (by decide) e2);have q2:=sp_word_sp hnm.1 (sp_cc (sp_word (w:=wOutArray) (alone_word (by decide)) (c:=40) (by decide) (sp_sign (c:=40) (by decide) (by decide) q1)));simpa[V]using q2
  have e4:=sp_word (truth_alone x.bool) (c:=58) (by decide) (sp_sign_sp (c:=58) (by decide) e3);have e5:Sp ((if x.k=4 then [118,97,114,32] else [])++(truthS x.bool++58::32::(x.name++((if x.out then [32,58,58,32]++wOutArray++[40]++sizeS x++[41] else [])++32::61::32::91::((joinS (x.vals.map plainS)).1++93::59::10::s))))) ((if x.k=4 then [aW wVar] else [])++aW (truthS x.bool)::aS 58::aW x.name::((if x.out then aCC::aW wOutArray::aS 40::(sizeT x++[aS 41]) else [])++aS 61::aS 91::(V x++aS 93::aS 59::us))):=by
   by_cases h4:x.k=4
   ·rw[if_pos h4,if_pos h4];exact sp_word_sp (w:=wVar) (alone_word (by decide)) e4
   ·rw[if_neg h4,if_neg h4];exact e4
  have e6:=sp_word_sp (w:=wOf) (alone_word (by decide)) e5;have e7:=size_sp_sp (x:=x) hr.1 e6;have e8:=sp_word_sp (w:=wArray) (alone_word (by decide)) e7;simpa[arrT,wOf]using e8
 ·have e0:(arrT x).map bare++r=bare (aW wArray)::bare (aS 91)::bare (aN 1)::bare aDots::bare (aN x.size)::bare (aS 93)::bare (aW wOf)::((if x.k=4 then [bare (aW wVar)] else [])++bare (aW (truthS x.bool))::bare (aS 58)::bare (aW x.name)::((if x.out then [bare aCC,bare (aW wOutArray),bare (aS 40),bare (aS 91),bare (aN 1),bare aDots,bare (aN x.size),bare (aS 93),bare (aS 41)] else [])++bare (aS 61)::bare (aS 91)::((V x).map bare++bare (aS 93)::bare (aS 59)::r))):=by
   unfold arrT sizeT;by_cases h4:x.k=4<;>cases x.out<;>simp[h4]
  rw[e0];have p4':∀(e:Tok) (c:UInt8) (r:List Tok),isSign c=true→c≠44→e.t=[c]→exprsP [c] plainP ((V x).map bare++e::r)= .ok x.vals r:=p4;have fin:∀k o,x.k=k→x.out=o→PR.ok (⟨k,x.name,x.bool,[],x.size,o,x.vals,0⟩:It) (bare (aS 59)::r)= .ok x (bare (aS 59)::r):=fun k o hk ho=>by
   obtain ⟨k',nm,b,d,z,o',v,a⟩:=x;dsimp only at hk h2 h3 ho;subst hk h2 h3 ho;rfl
  unfold itemP;rw[if_neg (by rw[isP_cons,isP_cons];decide),bind_of (may_no (s:=wVar) (t:=bare (aW wArray)) (by decide)),if_neg (by decide),bind_of (may_yes (s:=wArray) (t:=bare (aW wArray)) rfl),if_pos rfl];unfold arrayP;rw[bind_of (take_yes (s:=[91]) (t:=bare (aS 91)) rfl),bind_of (exact_of 1 _),bind_of (take_yes (s:=[46,46]) (t:=bare aDots) rfl),bind_of (number_of x.size _)];have ht:∀l,takesP [[93],wOf] (bare (aS 93)::bare (aW wOf)::l)= .ok () l:=fun l=>by
   rw[takes_of (s:=[93]) (t:=bare (aS 93)) rfl,takes_of (s:=wOf) (t:=bare (aW wOf)) rfl];rfl
  rw[bind_of (ht _)];have hvar:(bare (aW (truthS x.bool))).t≠wVar:=by cases x.bool<;>decide
  rcases hk with hk|hk
  ·have ho:x.out=false:=by
    rcases h4 with h4|h4
    ·exact h4
    ·rw[hk]at h4;exact absurd h4 (by decide)
   rw[ho,if_neg (by rw[hk];decide),List.nil_append,if_neg (by decide),List.nil_append,bind_of (may_no hvar),bind_of (truth_of x.bool _),bind_of (take_yes (s:=[58]) (t:=bare (aS 58)) rfl),bind_of (name_of hnm _),if_neg (by decide),bind_of (pret_eq false _),if_neg (by decide),bind_of (pret_eq () _)];exact (arr_end p4' (if false=true then 4 else 3) false).trans (fin 3 false hk ho)
  ·rw[if_pos hk];rw[List.cons_append,List.nil_append,bind_of (may_yes (s:=wVar) (t:=bare (aW wVar)) rfl),bind_of (truth_of x.bool _),bind_of (take_yes (s:=[58]) (t:=bare (aS 58)) rfl),bind_of (name_of hnm _)];cases ho:x.out with
   |false=>
    simp only[if_true,Bool.false_eq_true,if_false,List.nil_append];rw[bind_of (may_no (s:=[58,58]) (t:=bare (aS 61)) (by decide))];simp only[Bool.false_eq_true,if_false];rw[bind_of (pret_eq () _)];exact (arr_end p4' 4 false).trans (fin 4 false hk ho)
   |true=>
    simp only[if_true,List.cons_append,List.nil_append];rw[bind_of (may_yes (s:=[58,58]) (t:=bare aCC) rfl)];simp only[if_true];have ho1:∀l,(pbind (takesP [wOutArray,[40],[91]]) fun _=>pbind (exactP 1) fun _=>pbind (takeP [46,46]) fun _=>pbind (exactP x.size) fun _=>takesP [[93],[41]]) (bare (aW wOutArray)::bare (aS 40)::bare (aS 91)::bare (aN 1)::bare aDots::bare (aN x.size)::bare (aS 93)::bare (aS 41)::l)= .ok () l:=fun l=>by
     have g1:takesP [wOutArray,[40],[91]] (bare (aW wOutArray)::bare (aS 40)::bare (aS 91)::bare (aN 1)::bare aDots::bare (aN x.size)::bare (aS 93)::bare (aS 41)::l)= .ok () (bare (aN 1)::bare aDots::bare (aN x.size)::bare (aS 93)::bare (aS 41)::l):=by
      rw[takes_of (s:=wOutArray) (t:=bare (aW wOutArray)) rfl,takes_of (s:=[40]) (t:=bare (aS 40)) rfl,takes_of (s:=[91]) (t:=bare (aS 91)) rfl];rfl
     rw[bind_of g1,bind_of (exact_of 1 _),bind_of (take_yes (s:=[46,46]) (t:=bare aDots) rfl),bind_of (exact_of x.size _),takes_of (s:=[93]) (t:=bare (aS 93)) rfl,takes_of (s:=[41]) (t:=bare (aS 41)) rfl];rfl
    rw[bind_of (ho1 _)];exact (arr_end p4' 4 true).trans (fin 4 true hk ho)
def itemT (x:It):List T3:=if x.k=1 then parT x else if x.k=2 then varT x else if x.k=3∨x.k=4 then arrT x else if x.k=5 then conT x else goalT x
theorem vitem_ok {x:It} (hr:RngI x) (h:(itemS x).2=true):LowI x∧(∀s us,Sp s us→Sp ((itemS x).1++10::s) (itemT x++us))∧∀r,itemP ((itemT x).map bare++r)= .ok x (bare (aS 59)::r):=by
 unfold itemS at h⊢;unfold itemT;by_cases h1:x.k=1
 ·rw[if_pos h1]at h⊢;rw[if_pos h1];exact par_ok h1 hr h
 ·rw[if_neg h1]at h⊢;rw[if_neg h1];by_cases h2:x.k=2
  ·rw[if_pos h2]at h⊢;rw[if_pos h2];exact var_ok h2 hr h
  ·rw[if_neg h2]at h⊢;rw[if_neg h2];by_cases h3:x.k=3∨x.k=4
   ·rw[if_pos h3]at h⊢;rw[if_pos h3];exact arr_ok h3 hr h
   ·rw[if_neg h3]at h⊢;rw[if_neg h3];by_cases h5:x.k=5
    ·rw[if_pos h5]at h⊢;rw[if_pos h5];exact con_ok h5 hr h
    ·rw[if_neg h5]at h⊢;rw[if_neg h5];by_cases h6:x.k=6
     ·rw[if_pos h6]at h⊢;exact goal_ok h6 hr h
     ·rw[if_neg h6]at h;cases h
end Go.Proofs.YtpfhgkielakmoaaGreatDoor
/-
  Joined texts: Vi, Pj, Pk, Pl.
-/
set_option linter.unusedSimpArgs false
set_option linter.unusedVariables false
namespace Go.Proofs.YtpfhgkielakmoaaGreatDoor
def textS (l:List It):List UInt8:=l.flatMap fun x=>(itemS x).1++[10]
def toksT (l:List It):List T3:=l.flatMap itemT
theorem itemT_ne {x:It} (hr:RngI x) (h:(itemS x).2=true):∃t q,(itemT x).map bare=t::q:=by
 have:=(vitem_ok hr h).2.2 [];cases hq:(itemT x).map bare with
 |nil=>
  rw[hq]at this;exact absurd this (by intro e;cases e)
 |cons t q=>exact ⟨t,q,rfl⟩
theorem all_of:∀{l:List It} (k:Nat) (acc:List It),(∀x∈l,RngI x)→(∀x∈l,(itemS x).2=true)→l.length≤k→allGo k acc ((toksT l).map bare)= .ok (acc++l) []
 |[],k,acc,_,_,_=>by
  show allGo k acc []=_;rw[allGo_nil,List.append_nil]
 |x::l,k,acc,hr,h,hk=>by
  obtain ⟨j,rfl⟩:∃j,k=j+1:=⟨k-1,by simp at hk;omega⟩;have ih:=all_of (l:=l) j (acc++[x]) (fun y hy=>hr y (List.mem_cons_of_mem _ hy)) (fun y hy=>h y (List.mem_cons_of_mem _ hy)) (by simp at hk;omega);have hi:=(vitem_ok (hr x List.mem_cons_self) (h x List.mem_cons_self)).2.2 ((toksT l).map bare);obtain ⟨t,q,ht⟩:=itemT_ne (hr x List.mem_cons_self) (h x List.mem_cons_self);have e:(toksT (x::l)).map bare=t::(q++(toksT l).map bare):=by
   show (itemT x++toksT l).map bare=_;rw[List.map_append,ht];rfl
  rw[e,allGo_cons];rw[ht]at hi;rw[bind_of (show itemP (t::(q++(toksT l).map bare))=_ from hi),bind_of (take_yes (s:=[59]) (t:=bare (aS 59)) rfl),ih];simp
theorem textS_app (a b:List It):textS (a++b)=textS a++textS b:=by simp[textS]
end Go.Proofs.YtpfhgkielakmoaaGreatDoor
set_option maxHeartbeats 40000000
set_option maxRecDepth 100000
set_option linter.unusedSimpArgs false
set_option linter.unusedVariables false
namespace Go.Proofs.YtpfhgkielakmoaaGreatDoor
open Go.RowKit
theorem pbind_ok {α β:Type} {f:Pm α} {g:α→Pm β} {l r:List Tok} {x:α} (h:f l= .ok x r):pbind f g l=g x r:=by
 unfold pbind;rw[h]
theorem pbind_bad {α β:Type} {f:Pm α} {g:α→Pm β} {l r:List Tok} {c:Int} (h:f l= .bad c r):pbind f g l= .bad c r:=by
 unfold pbind;rw[h]
theorem pbind_ok2 {α β γ:Type} {f:Pm α} {g:α→Pm β} {k:β→Pm γ} {l r:List Tok} {x:α} (h:f l= .ok x r):pbind (pbind f g) k l=pbind (g x) k r:=by
 unfold pbind;rw[h]
theorem pbind_bad2 {α β γ:Type} {f:Pm α} {g:α→Pm β} {k:β→Pm γ} {l r:List Tok} {c:Int} (h:f l= .bad c r):pbind (pbind f g) k l= .bad c r:=by
 unfold pbind;rw[h]
theorem goal_any {g n:Nat} {l:List Tok} {w:World} (h:Ps w g l n):
 Calls Tryz.prog 84 #[.pointer (some ⟨g,0,none⟩)] w (PPost g n w (VIt w.heap.size) (goalP l)):=by
 have hmf:∀(fn:Fn) (first cap:Array Value) (w:World),(Instr.makeFunc fn first cap).run Tryz.prog w= .ok (.func fn first cap) w:=fun _ _ _ _=>rfl
 have T0:=two_start h ⟨6,[],false,[],0,false,[],0⟩ rfl rfl
 go_enter Tryz.func84,Tryz.ntmps84
 go_wp2_with fail
 refine (may_any ⟨wSatisfy.toArray⟩ T0.ps).mono ?_
 rintro e w1 ⟨b1,l1,e1,rfl,h1,q1⟩
 have T1:=T0.call q1 h1
 clear h1 q1 T0
 cases b1 with
 |true=>
  have h1:=(Eq.refl (goalP l)).trans (pbind_ok (show mayP wSatisfy l= .ok true l1 from e1))
  simp only[if_true]at h1
  have H1:=Lib.hid h1
  clear e1 h1
  obtain ⟨k20,k21,k22,k23,k24,k25,k26,k27⟩:=Blk.eight T1.it
  go_wp2_with ((with_reducible refine st_ ?_);refine wp_put2 _ _ T1.res rfl rfl rfl rfl info_it rfl rfl ?_;intro w20 b20 q20)
  obtain ⟨r0,r1,r2,r3,r4,r5,r6,r7⟩:=b20.eight
  refine bodyPost_ret (v:= .agg (icells _ _ _)) (by simp[results,Tryz.results84,go_sem,r0,r1,r2,r3,r4,r5,r6,r7];rfl) rfl (T1.done q20 ?_ rfl)
  exact H1.out
 |false=>
  have h1:=(Eq.refl (goalP l)).trans (pbind_ok (show mayP wSatisfy l= .ok false l1 from e1))
  simp only[Bool.false_eq_true,if_false]at h1
  have H1:=Lib.hid h1
  clear e1 h1
  go_wp2_with fail
  refine (may_any ⟨wMinimize.toArray⟩ T1.ps).mono ?_
  rintro e w4 ⟨b4,l4,e4,rfl,h4,q4⟩
  have T4:=T1.call q4 h4
  clear h4 q4 T1
  cases b4 with
  |true=>
   have h4:=H1.out.trans (pbind_ok (show mayP wMinimize l1= .ok true l4 from e4))
   simp only[if_true]at h4
   have H4:=Lib.hid h4
   clear e4 h4
   have k5:w4.cell? ⟨w.heap.size+1,7,none⟩=some (.int .i64 0):=T4.cell 7
   have f5:=T4.it.frozen 7
   have T5:=T4.ask 1
   go_wp2_with fail
   refine (name_any T5.ps).mono ?_
   rintro e w7 ⟨q7,⟨u7,l7,e7,h7,v7,rfl,rfl⟩|⟨c7,l7,e7,rfl⟩⟩
   ·have H7:=Lib.hid (H4.out.trans (pbind_ok (show nameP l4= .ok u7 l7 from e7)));have T7:=T5.call q7 h7;clear e7 h7 q7 T5 k5 f5 T4;have k8:w7.cell? ⟨w.heap.size+1,1,none⟩=some (.string ⟨#[]⟩):=T7.cell 1;have f8:=T7.it.frozen 1;have T8:=T7.name u7;obtain ⟨k90,k91,k92,k93,k94,k95,k96,k97⟩:=Blk.eight T8.it;go_wp2_with ((with_reducible refine st_ ?_);refine wp_put2 _ _ T8.res rfl rfl rfl rfl info_it rfl rfl ?_;intro w20 b20 q20);obtain ⟨r0,r1,r2,r3,r4,r5,r6,r7⟩:=b20.eight;refine bodyPost_ret (v:= .agg (icells _ _ _)) (by simp[results,Tryz.results84,go_sem,r0,r1,r2,r3,r4,r5,r6,r7];rfl) rfl (T8.done q20 ?_ rfl);exact H7.out
   ·have e7':=Lib.hid (show nameP l4= .bad c7 l7 from e7);clear e7;go_wp2_with fail;refine ⟨rfl,grown_tr T5.gr q7,Or.inr ⟨c7,l7,?_,rfl⟩⟩;exact H4.out.trans (pbind_bad e7'.out)
  |false=>
   have h4:=H1.out.trans (pbind_ok (show mayP wMinimize l1= .ok false l4 from e4))
   simp only[Bool.false_eq_true,if_false]at h4
   have H4:=Lib.hid h4
   clear e4 h4
   go_wp2_with fail
   refine (may_any ⟨wMaximize.toArray⟩ T4.ps).mono ?_
   rintro e w11 ⟨b11,l11,e11,rfl,h11,q11⟩
   have T11:=T4.call q11 h11
   clear h11 q11 T4
   cases b11 with
   |true=>
    have h11:=H4.out.trans (pbind_ok (show mayP wMaximize l4= .ok true l11 from e11))
    simp only[if_true]at h11
    have H11:=Lib.hid h11
    clear e11 h11
    have k12:w11.cell? ⟨w.heap.size+1,7,none⟩=some (.int .i64 0):=T11.cell 7
    have f12:=T11.it.frozen 7
    have T12:=T11.ask 2
    go_wp2_with fail
    refine (name_any T12.ps).mono ?_
    rintro e w14 ⟨q14,⟨u14,l14,e14,h14,v14,rfl,rfl⟩|⟨c14,l14,e14,rfl⟩⟩
    ·have H14:=Lib.hid (H11.out.trans (pbind_ok (show nameP l11= .ok u14 l14 from e14)));have T14:=T12.call q14 h14;clear e14 h14 q14 T12 k12 f12 T11;have k15:w14.cell? ⟨w.heap.size+1,1,none⟩=some (.string ⟨#[]⟩):=T14.cell 1;have f15:=T14.it.frozen 1;have T15:=T14.name u14;obtain ⟨k160,k161,k162,k163,k164,k165,k166,k167⟩:=Blk.eight T15.it;go_wp2_with ((with_reducible refine st_ ?_);refine wp_put2 _ _ T15.res rfl rfl rfl rfl info_it rfl rfl ?_;intro w20 b20 q20);obtain ⟨r0,r1,r2,r3,r4,r5,r6,r7⟩:=b20.eight;refine bodyPost_ret (v:= .agg (icells _ _ _)) (by simp[results,Tryz.results84,go_sem,r0,r1,r2,r3,r4,r5,r6,r7];rfl) rfl (T15.done q20 ?_ rfl);exact H14.out
    ·have e14':=Lib.hid (show nameP l11= .bad c14 l14 from e14);clear e14;go_wp2_with fail;refine ⟨rfl,grown_tr T12.gr q14,Or.inr ⟨c14,l14,?_,rfl⟩⟩;exact H11.out.trans (pbind_bad e14'.out)
   |false=>
    have h11:=H4.out.trans (pbind_ok (show mayP wMaximize l4= .ok false l11 from e11))
    simp only[Bool.false_eq_true,if_false]at h11
    have H11:=Lib.hid h11
    clear e11 h11
    go_wp2_with fail
    refine (wrong_any T11.ps).mono ?_
    rintro e w18 ⟨rfl,q18⟩
    go_wp2_with fail
    refine ⟨rfl,grown_tr T11.gr q18,Or.inr ⟨_,_,?_,rfl⟩⟩
    exact H11.out
end Go.Proofs.YtpfhgkielakmoaaGreatDoor
set_option linter.unusedSimpArgs false
set_option linter.unusedVariables false
namespace Go.Proofs.YtpfhgkielakmoaaGreatDoor
open Go.RowKit
theorem VIt.done {w w1 w9:World} {o:Obj} {v:Value} {x:It} (h:VIt (w.alloc o).heap.size w1 v x) (q:w1.grownBy w9 (some w.heap.size)):VIt w.heap.size w9 v x:=by
 obtain ⟨D,V,h1,h2,h3⟩:=h;have hs:(w.alloc o).heap.size=w.heap.size+1:=by simp
 rw[hs]at h2 h3;refine ⟨D,V,h1,?_,?_⟩
 ·exact layR.row.mono (fun b hb=>⟨by have:=hb.1;omega,Nat.lt_of_lt_of_le hb.2 q.size⟩) (layR.row.grown h2 q fun b hb e=>by injection e with e;have:=hb.1;omega)
 ·exact (layE 102).row.mono (fun b hb=>⟨by have:=hb.1;omega,Nat.lt_of_lt_of_le hb.2 q.size⟩) ((layE 102).row.grown h3 q fun b hb e=>by injection e with e;have:=hb.1;omega)
end Go.Proofs.YtpfhgkielakmoaaGreatDoor
set_option maxHeartbeats 20000000
set_option maxRecDepth 100000
set_option linter.unusedSimpArgs false
set_option linter.unusedVariables false
namespace Go.Proofs.YtpfhgkielakmoaaGreatDoor
open Go.RowKit
theorem VIt.put {w8 w9:World} {B H:Nat} {v:Value} {x:It} (h:VIt B w8 v x) (hB:H<B) (q:w8.grownBy w9 (some H)):VIt H w9 v x:=by
 obtain ⟨D,V,h1,h2,h3⟩:=h;refine ⟨D,V,h1,?_,?_⟩
 ·exact layR.row.mono (fun b hb=>⟨by have:=hb.1;omega,Nat.lt_of_lt_of_le hb.2 q.size⟩) (layR.row.grown h2 q fun b hb e=>by injection e with e;have:=hb.1;omega)
 ·exact (layE 102).row.mono (fun b hb=>⟨by have:=hb.1;omega,Nat.lt_of_lt_of_le hb.2 q.size⟩) ((layE 102).row.grown h3 q fun b hb e=>by injection e with e;have:=hb.1;omega)
theorem not_sol {l:List Tok} {s:List UInt8} (h:isP wSolve l=true) (hne:s≠wSolve):isP s l=false:=by
 cases l with
 |nil=>rfl
 |cons t r=>
  have h1:t.t=wSolve:=eq_of_beq h;show (t.t==s)=false;rw[h1];exact beq_false_of_ne (Ne.symm hne)
theorem may_not {l l3:List Tok} {s:List UInt8} {b:Bool} (h:isP wSolve l=true) (hne:s≠wSolve) (e:mayP s l= .ok b l3):b=false∧l3=l:=by
 unfold mayP at e;rw[if_neg (by rw[not_sol h hne];decide)]at e;injection e with e1 e2;exact ⟨e1.symm,e2.symm⟩
theorem item_sol {g n:Nat} {l:List Tok} {w:World} (h:Ps w g l n) (hs:isP wSolve l=true):Calls Tryz.prog 41 #[.pointer (some ⟨g,0,none⟩)] w (PPost g n w (VIt w.heap.size) (itemP l)):=by
 have HS:=Lib.hid hs;clear hs;have hmf:∀(fn:Fn) (first cap:Array Value) (w:World),(Instr.makeFunc fn first cap).run Tryz.prog w= .ok (.func fn first cap) w:=fun _ _ _ _=>rfl;have hg:=h.lt;have h0:=h.alloc (.cells zI 47);have b0:Blk (w.alloc (.cells zI 47)) w.heap.size 47 zI:=Blk.new ..;have q0:=World.grownBy_alloc w (.cells zI 47) (some g);go_enter Tryz.func41,Tryz.ntmps41;go_wp2_with fail;refine (is_any ⟨wInt.toArray⟩ h0).mono ?_;rintro e w1 ⟨rfl,p1⟩;obtain ⟨h1,q1⟩:=h0.after p1;have b1:=b0.turn q1 (by omega);have i1':isP (⟨wInt.toArray⟩:ByteArray).data.toList l=false:=not_sol HS.out (by decide);go_wp2_with fail;refine (is_any ⟨wBool.toArray⟩ h1).mono ?_;rintro e w2 ⟨rfl,p2⟩;obtain ⟨h2,q2⟩:=h1.after p2;have b2:=b1.turn q2 (by omega);replace q1:=grown_tr (grown_tr q0 q1) q2;have i2':isP (⟨wBool.toArray⟩:ByteArray).data.toList l=false:=not_sol HS.out (by decide);have I1:Hid (isP wInt l=false):=not_sol HS.out (by decide);have I2:Hid (isP wBool l=false):=not_sol HS.out (by decide);go_wp2_with fail;refine (may_any ⟨wVar.toArray⟩ h2).mono ?_;rintro e w3 ⟨b,l3,e3,rfl,h3,q3⟩;have e3':mayP wVar l= .ok b l3:=e3;obtain ⟨rfl,rfl⟩:=may_not HS.out (by decide) e3';have b3:=b2.turn q3 (by omega);replace q1:=grown_tr q1 q3;clear i1' i2';go_wp2_with fail;refine (may_any ⟨wArray.toArray⟩ h3).mono ?_;rintro e w4 ⟨b,l4,e4,rfl,h4,q4⟩;have e4':mayP wArray l3= .ok b l4:=e4;obtain ⟨rfl,rfl⟩:=may_not HS.out (by decide) e4';have b4:=b3.turn q4 (by omega);replace q1:=grown_tr q1 q4;go_wp2_with fail;refine (may_any ⟨wConstraint.toArray⟩ h4).mono ?_;rintro e w5 ⟨b,l5,e5,rfl,h5,q5⟩;have e5':mayP wConstraint l4= .ok b l5:=e5;obtain ⟨rfl,rfl⟩:=may_not HS.out (by decide) e5';have b5:=b4.turn q5 (by omega);replace q1:=grown_tr q1 q5;go_wp2_with fail;refine (may_any ⟨wSolve.toArray⟩ h5).mono ?_;rintro e w6 ⟨b,l6,e6,rfl,h6,q6⟩;have e6':mayP wSolve l5= .ok b l6:=e6;have b6:=b5.turn q6 (by omega);replace q1:=grown_tr q1 q6;cases b with
 |true=>
  go_wp2_with fail;have hb6:=b6;refine (goal_any h6).mono ?_;rintro e w8 ⟨q8,⟨x,l8,e8,h8,v,rfl,hv⟩|⟨c8,l8,e8,rfl⟩⟩
  ·have b8:=hb6.turn q8 (by omega);have e8':goalP l6= .ok x l8:=e8;have hv':=hv;obtain ⟨D,V,rfl,hD,hV⟩:=hv;obtain ⟨A1,c1,rfl⟩:=Lay.row_len hD;obtain ⟨A2,c2,rfl⟩:=Lay.row_len hV;go_wp2_with ((with_reducible refine st_ ?_);refine wp_put2 _ _ b8 rfl rfl rfl rfl info_it rfl rfl ?_;intro w20 b20 q20);obtain ⟨r0,r1,r2,r3,r4,r5,r6,r7⟩:=Blk.eight b20;refine bodyPost_ret (v:= .agg (icells x (.slice A1 x.dom.length c1) (.slice A2 x.vals.length c2))) (by simp[results,Tryz.results41,go_sem,r0,r1,r2,r3,r4,r5,r6,r7];rfl) rfl ⟨grown_new (grown_tr q1 q8) q20 (Nat.le_refl _),Or.inl ⟨x,l8,?_,h8.grown q20 hg,_,rfl,hv'.put hb6.lt q20⟩⟩;simp only[itemP,pbind,I1.out,I2.out,Bool.or_self,Bool.false_eq_true,if_false,e3',e4',e5',e6',if_true,e8']
  ·have e8':goalP l6= .bad c8 l8:=e8;go_wp2_with fail;refine ⟨rfl,grown_tr q1 q8,Or.inr ⟨c8,l8,?_,rfl⟩⟩;simp only[itemP,pbind,I1.out,I2.out,Bool.or_self,Bool.false_eq_true,if_false,e3',e4',e5',e6',if_true,e8']
 |false=>
  exfalso;unfold mayP at e6';rw[if_pos HS.out]at e6';cases e6'
end Go.Proofs.YtpfhgkielakmoaaGreatDoor

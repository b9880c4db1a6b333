/-
  Joined texts: Vb, Vc, Vd.
-/
import Derived.Test.YtjlhjabgclflcaaGreatDoorVa
import Derived.Lib.Strings
import Derived.Lib.Join
set_option linter.unusedSimpArgs false
set_option linter.unusedVariables false
namespace Go.Proofs.YtjlhjabgclflcaaGreatDoor
theorem splitB_ok (n:Nat):∀(k:Nat) (l:List UInt8) (acc:List Tok),l.length≤k→acc.length≤4096→(splitB n l acc).2.2=0→∃ts,toks l=some ts∧(splitB n l acc).1.map stripT=acc.map stripT++ts∧acc.length+ts.length≤4096∧(splitB n l acc).2.1=0:=by
 intro k;induction k with
 |zero=>
  intro l acc hl ha _;obtain rfl:l=[]:=List.length_eq_zero_iff.1 (by omega);rw[splitB_nil];exact ⟨[],toks_nil,by simp,ha,rfl⟩
 |succ k ih=>
  intro l acc hl ha h;by_cases h0:l=[]
  ·subst h0;rw[splitB_nil];exact ⟨[],toks_nil,by simp,ha,rfl⟩
  ·by_cases h4:acc.length=4096
   ·rw[splitB,if_neg h0,if_pos h4]at h;exact absurd h (by simp)
   ·rw[splitB_cons h0 h4]at h⊢;rw[toks_cons h0];by_cases hw:(wordL l).1=0
    ·rw[if_pos hw]at h;exact absurd h (by simp)
    ·rw[if_neg hw]at h⊢;rw[if_neg hw];cases hv:valL (wordL l).1 (l.take (wordL l).2) with
     |none=>
      rw[hv]at h;exact absurd h (by simp)
     |some v=>
      rw[hv]at h;dsimp only at h⊢;have h1:=wordL_pos hw;have h2:=blankL_le (l.drop (wordL l).2);rw[List.length_drop]at h2;obtain ⟨ts,e1,e2,e3,e4⟩:=ih _ _ (by omega:(blankL (l.drop (wordL l).2)).length≤k) (by rw[List.length_append,List.length_singleton];omega) h;refine ⟨((wordL l).1,l.take (wordL l).2,v)::ts,by rw[e1];rfl,?_,?_,e4⟩
      ·rw[e2,List.map_append,List.append_assoc];rfl
      ·rw[List.length_append,List.length_singleton]at e3;rw[List.length_cons];omega
theorem splitB_of (n:Nat):∀(k:Nat) (l:List UInt8) (acc:List Tok) (ts:List T3),l.length≤k→toks l=some ts→acc.length+ts.length≤4096→(splitB n l acc).2.2=0:=by
 intro k;induction k with
 |zero=>
  intro l acc ts hl _ _;obtain rfl:l=[]:=List.length_eq_zero_iff.1 (by omega);rw[splitB_nil]
 |succ k ih=>
  intro l acc ts hl ht ha;by_cases h0:l=[]
  ·subst h0;rw[splitB_nil]
  ·rw[toks_cons h0]at ht;by_cases hw:(wordL l).1=0
   ·rw[if_pos hw]at ht;cases ht
   ·rw[if_neg hw]at ht;cases hv:valL (wordL l).1 (l.take (wordL l).2) with
    |none=>rw[hv]at ht;cases ht
    |some v=>
     rw[hv,Option.bind_some]at ht;cases hq:toks (blankL (l.drop (wordL l).2)) with
     |none=>rw[hq]at ht;cases ht
     |some ts'=>
      rw[hq]at ht;obtain rfl:=Option.some.inj ht;rw[List.length_cons]at ha;have h1:=wordL_pos hw;have h2:=blankL_le (l.drop (wordL l).2);rw[List.length_drop]at h2;rw[splitB_cons h0 (by omega),if_neg hw,hv];exact ih _ _ ts' (by omega) hq (by rw[List.length_append,List.length_singleton];omega)
theorem splitR_ok {l:List UInt8} (h:(splitR l).2.2=0):∃ts,toks (blankL l)=some ts∧(splitR l).1.map stripT=ts∧ts.length≤4096∧l.length≤8192∧(splitR l).2.1=0:=by
 by_cases hl:l.length≤8192
 ·rw[splitR_small hl]at h⊢;obtain ⟨ts,e1,e2,e3,e4⟩:=splitB_ok l.length _ (blankL l) [] (Nat.le_refl _) (by simp) h;exact ⟨ts,e1,by simpa using e2,by simpa using e3,hl,e4⟩
 ·unfold splitR at h;rw[if_pos (by omega)]at h;exact absurd h (by decide)
theorem splitR_of {l:List UInt8} {ts:List T3} (hl:l.length≤8192) (ht:toks (blankL l)=some ts) (hn:ts.length≤4096):(splitR l).2.2=0∧(splitR l).1.map stripT=ts:=by
 have h:(splitR l).2.2=0:=by
  rw[splitR_small hl];exact splitB_of l.length _ (blankL l) [] ts (Nat.le_refl _) ht (by simpa using hn)
 obtain ⟨ts',e1,e2,_⟩:=splitR_ok h;rw[ht]at e1;obtain rfl:=Option.some.inj e1;exact ⟨h,e2⟩
def bare (x:T3):Tok:=⟨x.1,x.2.1,x.2.2,0⟩
theorem strip_bare (ts:List T3):(ts.map bare).map stripT=ts:=by
 rw[List.map_map];exact (List.map_congr_left fun x _=>rfl).trans (List.map_id' ts)
theorem text_of {l:List UInt8} {ts:List T3} (hl:l.length≤8192) (ht:toks (blankL l)=some ts) (hn:ts.length≤4096) {xs:List It} {r:List Tok} (h:allGo 512 [] (ts.map bare)= .ok xs r):textP l=(xs,0,0):=by
 obtain ⟨h1,h2⟩:=splitR_of hl ht hn;have al:=allGo_alike 512 [] (ts.map bare) (splitR l).1 (by rw[strip_bare,h2]);rw[h]at al;rw[textP_ok h1];cases e:allGo 512 [] (splitR l).1 with
 |ok y q=>
  rw[e]at al;obtain ⟨rfl,_⟩:=al;rfl
 |bad c q=>
  rw[e]at al;exact al.elim
def wSolMin:List UInt8:=[115,111,108,118,101,32,109,105,110,105,109,105,122,101,32]
def nameB (s:List UInt8):Bool:=(match splitR s with
 |([t],_,e)=>e==0&&(t.k==1&&t.t==s)
 |_=>false)&&(textP (wSolMin++s++[59])).2.2==0
def NameA (s:List UInt8):Prop:=Alone (1,s,0)∧wordP s=false
theorem alone_val {t:List UInt8} {k v:Int} (h:Alone (k,t,v)) (hk:k≠2):v=0:=by
 have:=h.2.2;unfold valL at this;rw[if_neg hk]at this;exact (Option.some.inj this).symm
theorem alone_sign {c:UInt8} (h:isSign c=true):Alone (3,[c],0):=by
 have h1:isLetter c=false∧isDigit c=false∧c≠45∧c≠46:=by
  unfold isSign at h;simp at h;rcases h with ((((((((h|h)|h)|h)|h)|h)|h)|h)|h)|h<;>subst h<;>decide
 refine ⟨?_,(show (3:Int)≠0 by decide),rfl⟩;unfold wordL;dsimp only;rw[if_neg (by rw[h1.1];decide),if_neg (by rw[h1.2.1];decide),if_neg (fun e=>h1.2.2.1 e.1),if_neg (by rintro (⟨_,h⟩|⟨_,h⟩)<;>simp at h),if_pos h];rfl
theorem alone_word {s:List UInt8} (h:wordL s=(1,s.length)):Alone (1,s,0):=⟨h,(show (1:Int)≠0 by decide),rfl⟩
def aSolve:T3:=(1,wSolve,0)
def aMin:T3:=(1,wMinimize,0)
def aSemi:T3:=(3,[59],0)
theorem sol_spell {s:List UInt8} (h:Alone (1,s,0)):Sp (wSolMin++s++[59]) [aSolve,aMin,(1,s,0),aSemi]:=by
 have h1:Sp [59] [aSemi]:=Sp.no (x:=aSemi) (alone_sign (by decide)) (fun c r e=>by cases e) Sp.nil;have h2:Sp (s++[59]) [(1,s,0),aSemi]:=Sp.no (x:=(1,s,0)) h (fun c r e=>by injection e with e _;subst e;exact ⟨fun _=>by decide,fun h=>absurd h (show (1:Int)≠2 by decide),fun _=>by decide⟩) h1;have h3:Sp (wMinimize++32::(s++[59])) [aMin,(1,s,0),aSemi]:=Sp.sp (x:=aMin) (alone_word (by decide)) h2;have h4:=Sp.sp (x:=aSolve) (alone_word (by decide)) h3;have e:wSolMin++s++[59]=aSolve.2.1++32::(wMinimize++32::(s++[59])):=by
  unfold wSolMin aSolve wSolve wMinimize;simp
 rw[e];exact h4
theorem name_at (s:List UInt8) (v a:Int) (l:List Tok):nameP (⟨1,s,v,a⟩::l)=if wordP s=true then .bad 5 (⟨1,s,v,a⟩::l) else .ok s l:=by
 unfold nameP kindP;by_cases h:wordP s=true
 ·simp[h,wrongP,errP]
 ·simp[h,headP]
theorem sol_parse (s:List UInt8):allGo 512 [] ([aSolve,aMin,(1,s,0),aSemi].map bare)=if wordP s=true then .bad 5 [⟨1,s,0,0⟩,bare aSemi] else .ok [⟨6,s,false,[],0,false,[],1⟩] []:=by
 show allGo (511+1) [] (bare aSolve::_)=_;rw[allGo_cons];have h1:itemP [bare aSolve,bare aMin,⟨1,s,0,0⟩,bare aSemi]=if wordP s=true then .bad 5 [⟨1,s,0,0⟩,bare aSemi] else .ok ⟨6,s,false,[],0,false,[],1⟩ [bare aSemi]:=by
  show pbind nameP (fun nm=>pret (⟨6,nm,false,[],0,false,[],1⟩:It)) [(⟨1,s,0,0⟩:Tok),bare aSemi]=_;unfold pbind;rw[name_at];by_cases h:wordP s=true
  ·rw[if_pos h,if_pos h]
  ·rw[if_neg h,if_neg h];rfl
 show pbind itemP _ [bare aSolve,bare aMin,⟨1,s,0,0⟩,bare aSemi]=_;unfold pbind;rw[h1];by_cases h:wordP s=true
 ·rw[if_pos h,if_pos h]
 ·rw[if_neg h,if_neg h];rfl
theorem nameB_iff {s:List UInt8}:nameB s=true↔NameA s∧s.length≤8176:=by
 constructor
 ·intro h;unfold nameB at h;rw[Bool.and_eq_true]at h;obtain ⟨h1,h2⟩:=h;have h3:(splitR s).2.2=0∧∃t,(splitR s).1=[t]∧t.k=1∧t.t=s:=by
   generalize splitR s=R at*;obtain ⟨l,p,e⟩:=R;match l,h1 with
   |[t],h1=>
    simp at h1;exact ⟨h1.1,t,rfl,h1.2.1,h1.2.2⟩
  obtain ⟨h4,t,h5,h6,h7⟩:=h3;obtain ⟨ts,e1,e2,_,_,_⟩:=splitR_ok h4;have ha:=toks_alone _ _ (Nat.le_refl _) ts e1;rw[h5]at e2;have ha1:=ha (stripT t) (by rw[←e2];exact List.mem_cons_self);unfold stripT at ha1;rw[h6,h7]at ha1;have hv:=alone_val ha1 (by decide);rw[hv]at ha1;have hl:(wSolMin++s++[59]).length≤8192:=by
   have h8:(textP (wSolMin++s++[59])).2.2=0:=by simpa using h2
   obtain ⟨_,_,_,_,h9,_⟩:=splitR_ok (textP_split h8).1;exact h9
  have hsp:=(sol_spell ha1).toks;refine ⟨⟨ha1,?_⟩,by simp[wSolMin]at hl;omega⟩;rcases Bool.eq_false_or_eq_true (wordP s) with hw|hw
  ·exfalso;have h8:(textP (wSolMin++s++[59])).2.2=0:=by simpa using h2
   obtain ⟨k1,k2⟩:=splitR_of hl (by rw[hsp.1];exact hsp.2) (by simp);have al:=allGo_alike 512 [] ([aSolve,aMin,(1,s,0),aSemi].map bare) (splitR (wSolMin++s++[59])).1 (by rw[strip_bare,k2]);rw[sol_parse,if_pos hw]at al;rw[textP_ok k1]at h8;cases e:allGo 512 [] (splitR (wSolMin++s++[59])).1 with
   |ok y q=>rw[e]at al;exact al.elim
   |bad c q=>
    rw[e]at al h8;obtain ⟨rfl,_⟩:=al;dsimp only at h8;exact absurd h8 (by decide)
  ·exact hw
 ·rintro ⟨⟨ha,hw⟩,hl⟩;unfold nameB;have hl2:(wSolMin++s++[59]).length≤8192:=by simp[wSolMin];omega
  have hsp:=(sol_spell ha).toks;have hp:=sol_parse s;rw[if_neg (by rw[hw];decide)]at hp;have ht:=text_of hl2 (by rw[hsp.1];exact hsp.2) (by simp) hp;rw[ht];have h1:Sp s [(1,s,0)]:=by
   have:=Sp.no (x:=(1,s,0)) ha (fun c r e=>by cases e) Sp.nil;rwa[List.append_nil]at this
  obtain ⟨k1,k2⟩:=splitR_of (by omega:s.length≤8192) (by rw[h1.toks.1];exact h1.toks.2) (by simp);generalize splitR s=R at*;obtain ⟨l,p,e⟩:=R;dsimp only at k1 k2;subst k1;obtain ⟨t,rfl⟩:∃t,l=[t]:=by
   have:=congrArg List.length k2;rw[List.length_map]at this;exact List.length_eq_one_iff.1 this
  have k3:stripT t=(1,s,0):=by simpa using k2
  unfold stripT at k3;injection k3 with a b;injection b with b _;simp[a,b]
end Go.Proofs.YtjlhjabgclflcaaGreatDoor
set_option linter.unusedSimpArgs false
set_option linter.unusedVariables false
namespace Go.Proofs.YtjlhjabgclflcaaGreatDoor
abbrev TX:=List UInt8×Bool
def plain0S (y:Ex0):TX:=
 if 0<y.m then ([],false)
 else if y.k=1∧y.s=[] then (Lib.itoa y.n,true)
 else if y.k=2∧y.s=[]∧y.n=1 then (wTrue,true)
 else if y.k=2∧y.s=[]∧y.n=0 then (wFalse,true)
 else if y.k=3∧y.n=0∧nameB y.s=true then (y.s,true)
 else ([],false)
def joinS (ps:List TX):TX:=if 64<ps.length then ([],false) else if ps.all (·.2)=true then (Lib.join (ps.map (·.1)) [44,32],true) else ([],false)
def plainS (x:Ex):TX:=plain0S x.low
def exprS (x:Ex):TX:=if x.k≠4 then plainS x else (91::((joinS (x.l.map plain0S)).1++[93]),(joinS (x.l.map plain0S)).2&&(x.n==0&&x.s==[]))
def domS (x:It):TX:=
 if x.bool=true then (wBool,x.dom.isEmpty)
 else match x.dom with
  |[r]=>(Lib.itoa r.1++(46::46::Lib.itoa r.2),true)
  |d=>if d=[]∨256<d.length then ([],false) else if d.all (fun r=>r.1==r.2)=true then (123::(Lib.join (d.map fun r=>Lib.itoa r.1) [44,32]++[125]),true) else ([],false)
def truthS (b:Bool):List UInt8:=if b then wBool else wInt
def bareB (x:It):Bool:=x.dom.isEmpty&&(x.size==0&&(!x.out&&x.ask==0))
def parS (x:It):TX:=
 (truthS x.bool++[58,32]++x.name++[32,61,32]++(joinS (x.vals.map plainS)).1++[59],
  (joinS (x.vals.map plainS)).2&&((x.vals.length==1)&&((x.vals.map (·.k)==[if x.bool then 2 else 1])&&(bareB x&&nameB x.name))))
def varS (x:It):TX:=
 ([118,97,114,32]++(domS x).1++[58,32]++x.name++(if x.out then [32,58,58,32]++wOutVar else [])++(if x.vals.isEmpty then [] else [32,61,32]++(joinS (x.vals.map plainS)).1)++[59],
  (domS x).2&&((joinS (x.vals.map plainS)).2&&(decide (x.vals.length≤1)&&(x.size==0&&(x.ask==0&&nameB x.name)))))
def sizeS (x:It):List UInt8:=[91,49,46,46]++Lib.itoa x.size++[93]
def arrS (x:It):TX:=
 (wArray++[32]++sizeS x++[32,111,102,32]++(if x.k=4 then [118,97,114,32] else [])++truthS x.bool++[58,32]++x.name++(if x.out then [32,58,58,32]++wOutArray++[40]++sizeS x++[41] else [])++[32,61,32,91]++(joinS (x.vals.map plainS)).1++[93,59],
  (joinS (x.vals.map plainS)).2&&(x.dom.isEmpty&&(x.ask==0&&((!x.out||x.k==4)&&nameB x.name))))
def conS (x:It):TX:=
 (wConstraint++[32]++x.name++[40]++(joinS (x.vals.map exprS)).1++[41,59],
  (joinS (x.vals.map exprS)).2&&(bareB x&&(!x.bool&&nameB x.name)))
def goalS (x:It):TX:=
 if x.ask=0 then (wSolve++[32]++wSatisfy++[59],(x.dom.isEmpty&&(x.size==0&& !x.out))&&(!x.bool&&(x.vals.isEmpty&&x.name==[])))
 else if x.ask=1 then (wSolMin++x.name++[59],(x.dom.isEmpty&&(x.size==0&& !x.out))&&(!x.bool&&(x.vals.isEmpty&&nameB x.name)))
 else if x.ask=2 then (wSolve++[32]++wMaximize++[32]++x.name++[59],(x.dom.isEmpty&&(x.size==0&& !x.out))&&(!x.bool&&(x.vals.isEmpty&&nameB x.name)))
 else ([],false)
def itemS (x:It):TX:=
 if x.k=1 then parS x else if x.k=2 then varS x else if x.k=3∨x.k=4 then arrS x else if x.k=5 then conS x else if x.k=6 then goalS x else ([],false)
def fitsS (s:List UInt8):Bool:=(splitR s).2.2==0
def I64 (n:Int):Prop:= -9223372036854775808≤n∧n≤9223372036854775807
def aTrue:T3:=(1,wTrue,0)
def aFalse:T3:=(1,wFalse,0)
def plain0T (y:Ex0):T3:=if y.k=1 then (2,Lib.itoa y.n,y.n) else if y.k=2 then (if y.n=1 then aTrue else aFalse) else (1,y.s,0)
theorem plain0_ok {y:Ex0} (hn:I64 y.n) {t:List UInt8} (h:plain0S y=(t,true)):y.m=0∧Alone (plain0T y)∧(plain0T y).2.1=t∧∀r,plainP (bare (plain0T y)::r)= .ok ⟨y.k,y.n,y.s,[]⟩ r:=by
 obtain ⟨k,n,s,m⟩:=y;unfold plain0S at h;dsimp only at h hn;by_cases c0:0<m
 ·rw[if_pos c0]at h;cases h
 rw[if_neg c0]at h;refine ⟨by show m=0;omega,?_⟩;by_cases c1:k=1∧s=[]
 ·rw[if_pos c1]at h;obtain ⟨rfl,rfl⟩:=c1;injection h with h _;subst h;exact ⟨itoa_alone n hn.1 hn.2,rfl,fun r=>rfl⟩
 rw[if_neg c1]at h;by_cases c2:k=2∧s=[]∧n=1
 ·rw[if_pos c2]at h;obtain ⟨rfl,rfl,rfl⟩:=c2;injection h with h _;subst h;exact ⟨alone_word (by decide),rfl,fun r=>rfl⟩
 rw[if_neg c2]at h;by_cases c3:k=2∧s=[]∧n=0
 ·rw[if_pos c3]at h;obtain ⟨rfl,rfl,rfl⟩:=c3;injection h with h _;subst h;exact ⟨alone_word (by decide),rfl,fun r=>rfl⟩
 rw[if_neg c3]at h;by_cases c4:k=3∧n=0∧nameB s=true
 ·rw[if_pos c4]at h;obtain ⟨rfl,rfl,h5⟩:=c4;injection h with h _;subst h;obtain ⟨⟨ha,hw⟩,_⟩:=nameB_iff.1 h5;refine ⟨ha,rfl,fun r=> ?_⟩;show plainP (⟨1,s,0,0⟩::r)=_;have hk:kindP ((⟨1,s,0,0⟩:Tok)::r)=1:=by
   unfold kindP;simp[hw]
  unfold plainP;rw[hk,if_neg (by decide),if_pos rfl];rfl
 ·rw[if_neg c4]at h;cases h
end Go.Proofs.YtjlhjabgclflcaaGreatDoor
set_option linter.unusedSimpArgs false
set_option linter.unusedVariables false
namespace Go.Proofs.YtjlhjabgclflcaaGreatDoor
def inter {α:Type} (c:α):List (List α)→List α
 |[]=>[]
 |[x]=>x
 |x::y::r=>x++c::inter c (y::r)
def aComma:T3:=(3,[44],0)
theorem join_two (x y:List UInt8) (r:List (List UInt8)) (sep:List UInt8):Lib.join (x::y::r) sep=x++(sep++Lib.join (y::r) sep):=by
 rw[Lib.join_cons,Lib.join_cons];simp[Lib.joinTail]
def Stop1 (s:List UInt8):Prop:=∃c r,s=c::r∧(c=44∨c=41∨c=93∨c=59∨c=125)
theorem stop_glue {s:List UInt8} (h:Stop1 s) (x:T3):∀c r,s=c::r→glue x c:=by
 obtain ⟨d,q,rfl,h⟩:=h;intro c r e;injection e with e _;subst e;rcases h with rfl|rfl|rfl|rfl|rfl<;>exact ⟨fun _=>by decide,fun _=>by decide,fun _=>by decide⟩
def Spk (t:List UInt8) (ts:List T3):Prop:=∀s us,Stop1 s→Sp s us→Sp (t++s) (ts++us)
theorem Spk.one {x:T3} (h:Alone x):Spk x.2.1 [x]:=fun s us hs hu=>Sp.no h (stop_glue hs x) hu
theorem Spk.join:∀{l:List (List UInt8×List T3)},(∀g∈l,Spk g.1 g.2)→Spk (Lib.join (l.map (·.1)) [44,32]) (inter aComma (l.map (·.2)))
 |[],_=>fun s us hs hu=>hu
 |[g],h=>fun s us hs hu=>by
  show Sp (Lib.join [g.1] [44,32]++s) (g.2++us);rw[Lib.join_one];exact h g List.mem_cons_self s us hs hu
 |g::g'::r,h=>fun s us hs hu=>by
  have ih:=Spk.join (l:=g'::r) (fun x hx=>h x (List.mem_cons_of_mem _ hx)) s us hs hu;show Sp (Lib.join (g.1::g'.1::r.map (·.1)) [44,32]++s) ((g.2++aComma::inter aComma (g'.2::r.map (·.2)))++us);rw[join_two,List.append_assoc,List.append_assoc,List.append_assoc,List.cons_append];exact h g List.mem_cons_self _ _ ⟨44,_,rfl,Or.inl rfl⟩ (Sp.sp (x:=aComma) (alone_sign (by decide)) ih)
theorem Spk.list {t:List UInt8} {ts:List T3} (h:Spk t ts):Spk (91::(t++[93])) ((3,[91],0)::(ts++[(3,[93],0)])):=fun s us hs hu=>by
 have h1:Sp (93::s) ((3,[93],0)::us):=Sp.no (x:=(3,[93],0)) (alone_sign (by decide)) (stop_glue hs _) hu;have h2:=h (93::s) _ ⟨93,s,rfl,Or.inr (Or.inr (Or.inl rfl))⟩ h1;have h3:Sp (91::(t++93::s)) ((3,[91],0)::(ts++(3,[93],0)::us)):=Sp.no (x:=(3,[91],0)) (alone_sign (by decide)) (fun c r _=>⟨fun e=>absurd e (show (3:Int)≠1 by decide),fun e=>absurd e (show (3:Int)≠2 by decide),fun e=>absurd e (show ([91]:List UInt8)≠[58] by decide)⟩) h2;simpa using h3
end Go.Proofs.YtjlhjabgclflcaaGreatDoor

/-
  Joined texts: Wh, Yp.
-/
import Derived.Test.YtpfhgkielakmoaaGreatDoorWd
set_option linter.unusedSimpArgs false
set_option linter.unusedVariables false
namespace Go.Proofs.YtpfhgkielakmoaaGreatDoor
open Go.RowKit Num Go.Joins
def rplainS (y:Ex0):List UInt8:=if y.k=1 then Lib.itoa y.n else if y.k=2 then (if y.n=1 then wTrue else wFalse) else y.s
def rlistS (l:List Ex0):List UInt8:=Lib.join (l.map rplainS) [44,32]
def rargS (x:Ex):List UInt8:=if x.k=4 then 91::(rlistS x.l++[93]) else rplainS x.low
def rargsS (l:List Ex):List UInt8:=Lib.join (l.map rargS) [44,32]
def rdomS (x:It):List UInt8:=if x.bool=true then wBool else match x.dom with
 |[r]=>Lib.itoa r.1++(46::46::Lib.itoa r.2)
 |d=>123::(Lib.join (d.map fun r=>Lib.itoa r.1) [44,32]++[125])
def rvarS (x:It):List UInt8:=[118,97,114,32]++rdomS x++[58,32]++x.name++(if x.out then [32,58,58,32]++wOutVar else [])++(match x.vals with
 |[]=>[]
 |y::_=>[32,61,32]++rplainS y.low)++[59]
def rarrS (x:It):List UInt8:=wArray++[32]++sizeS x++[32,111,102,32]++(if x.k=4 then [118,97,114,32] else [])++truthS x.bool++[58,32]++x.name++(if x.out then [32,58,58,32]++wOutArray++[40]++sizeS x++[41] else [])++[32,61,32,91]++rlistS (x.vals.map Ex.low)++[93,59]
def rtextS (x:It):List UInt8:=
 if x.k=1 then truthS x.bool++[58,32]++x.name++[32,61,32]++rlistS (x.vals.map Ex.low)++[59]
 else if x.k=2 then rvarS x
 else if x.k=3∨x.k=4 then rarrS x
 else if x.k=5 then wConstraint++[32]++x.name++[40]++rargsS x.vals++[41,59]
 else if x.ask=0 then wSolve++[32]++wSatisfy++[59]
 else if x.ask=1 then wSolMin++x.name++[59]
 else wSolve++[32]++wMaximize++[32]++x.name++[59]
def rightR (x:It):Bool:=decide (x.vals.length≤64)&&(decide (x.dom.length≤256)&&(x.vals.all (fun y=>decide (y.l.length≤64))&&((textP (rtextS x)).2.2==0&&itsB (textP (rtextS x)).1 [x])))
theorem rplain_eq {y:Ex0} (h:(plain0S y).2=true):rplainS y=(plain0S y).1:=by
 unfold plain0S at h⊢;unfold rplainS;by_cases c0:0<y.m
 ·rw[if_pos c0]at h;cases h
 rw[if_neg c0]at h⊢;by_cases c1:y.k=1∧y.s=[]
 ·rw[if_pos c1.1,if_pos c1]
 rw[if_neg c1]at h⊢;by_cases c2:y.k=2∧y.s=[]∧y.n=1
 ·rw[if_pos c2,if_neg (by omega),if_pos c2.1,if_pos c2.2.2]
 rw[if_neg c2]at h⊢;by_cases c3:y.k=2∧y.s=[]∧y.n=0
 ·rw[if_pos c3,if_neg (by omega),if_pos c3.1,if_neg (by omega)]
 rw[if_neg c3]at h⊢;by_cases c4:y.k=3∧y.n=0∧nameB y.s=true
 ·rw[if_pos c4,if_neg (by omega),if_neg (by omega)]
 ·rw[if_neg c4]at h;cases h
theorem join_same {α:Type} {S:α→TX} {R:α→List UInt8} {l:List α} (hS:∀y∈l,(S y).2=true→R y=(S y).1) (h:(joinS (l.map S)).2=true):Lib.join (l.map R) [44,32]=(joinS (l.map S)).1:=by
 obtain ⟨h1,h2,h3⟩:=joinS_ok (tx_eq h);rw[h3,List.map_map];congr 1;refine List.map_congr_left fun y hy=> ?_;exact hS y hy (h2 (S y) (List.mem_map_of_mem hy))
theorem rlist_eq {l:List Ex0} (h:(joinS (l.map plain0S)).2=true):rlistS l=(joinS (l.map plain0S)).1:=join_same (fun y _ h=>rplain_eq h) h
theorem rlist_eq2 {l:List Ex} (h:(joinS (l.map plainS)).2=true):rlistS (l.map Ex.low)=(joinS (l.map plainS)).1:=by
 have e:l.map plainS=(l.map Ex.low).map plain0S:=by rw[List.map_map];rfl
 rw[e]at h⊢;exact rlist_eq h
theorem rarg_eq {x:Ex} (h:(exprS x).2=true):rargS x=(exprS x).1:=by
 unfold exprS at h⊢;unfold rargS;by_cases hk:x.k≠4
 ·rw[if_pos hk]at h⊢;rw[if_neg hk];exact rplain_eq h
 ·rw[if_neg hk]at h⊢;rw[if_pos (Classical.not_not.1 hk)];rw[Bool.and_eq_true]at h;rw[rlist_eq h.1]
theorem rargs_eq {l:List Ex} (h:(joinS (l.map exprS)).2=true):rargsS l=(joinS (l.map exprS)).1:=join_same (fun y _ h=>rarg_eq h) h
theorem rdom_eq {x:It} (h:(domS x).2=true):rdomS x=(domS x).1:=by
 unfold domS at h⊢;unfold rdomS;by_cases hb:x.bool=true
 ·rw[if_pos hb,if_pos hb]
 ·rw[if_neg hb]at h⊢;rw[if_neg hb];generalize x.dom=d at*;match d,h with
  |[r],_=>rfl
  |[],h=>
   exfalso;have h':(if ([]:List (Int×Int))=[]∨256<([]:List (Int×Int)).length then (([]:List UInt8),false) else if ([]:List (Int×Int)).all (fun r=>r.1==r.2)=true then (123::(Lib.join (([]:List (Int×Int)).map fun r=>Lib.itoa r.1) [44,32]++[125]),true) else ([],false)).2=true:=h;rw[if_pos (Or.inl rfl)]at h';cases h'
  |a::b::q,h=>
   have h':(if (a::b::q)=[]∨256<(a::b::q).length then (([]:List UInt8),false) else if (a::b::q).all (fun r=>r.1==r.2)=true then (123::(Lib.join ((a::b::q).map fun r=>Lib.itoa r.1) [44,32]++[125]),true) else ([],false)).2=true:=h;show 123::(Lib.join ((a::b::q).map fun r=>Lib.itoa r.1) [44,32]++[125])=(if (a::b::q)=[]∨256<(a::b::q).length then (([]:List UInt8),false) else if (a::b::q).all (fun r=>r.1==r.2)=true then (123::(Lib.join ((a::b::q).map fun r=>Lib.itoa r.1) [44,32]++[125]),true) else ([],false)).1;by_cases h0:(a::b::q)=[]∨256<(a::b::q).length
   ·rw[if_pos h0]at h';cases h'
   ·rw[if_neg h0]at h'⊢;by_cases h1:(a::b::q).all (fun r=>r.1==r.2)=true
    ·rw[if_pos h1]
    ·rw[if_neg h1]at h';cases h'
theorem rtext_eq {x:It} (h:(itemS x).2=true):rtextS x=(itemS x).1:=by
 unfold itemS at h⊢;unfold rtextS;by_cases c1:x.k=1
 ·rw[if_pos c1]at h⊢;rw[if_pos c1];unfold parS at h⊢;simp only[Bool.and_eq_true]at h;rw[rlist_eq2 h.1]
 rw[if_neg c1]at h⊢;rw[if_neg c1];by_cases c2:x.k=2
 ·rw[if_pos c2]at h⊢;rw[if_pos c2];unfold varS at h⊢;simp only[Bool.and_eq_true]at h;unfold rvarS;rw[rdom_eq h.1];have hl:x.vals.length≤1:=of_decide_eq_true h.2.2.1;have hj:=h.2.1;generalize x.vals=vs at*;match vs,hl with
  |[],_=>rfl
  |[y],_=>
   have e:=rlist_eq2 hj;have e2:rlistS ([y].map Ex.low)=rplainS y.low:=by simp[rlistS,Lib.join,List.intercalate]
   rw[←e,e2];rfl
 rw[if_neg c2]at h⊢;rw[if_neg c2];by_cases c3:x.k=3∨x.k=4
 ·rw[if_pos c3]at h⊢;rw[if_pos c3];unfold arrS at h⊢;simp only[Bool.and_eq_true]at h;unfold rarrS;rw[rlist_eq2 h.1]
 rw[if_neg c3]at h⊢;rw[if_neg c3];by_cases c5:x.k=5
 ·rw[if_pos c5]at h⊢;rw[if_pos c5];unfold conS at h⊢;simp only[Bool.and_eq_true]at h;rw[rargs_eq h.1]
 rw[if_neg c5]at h⊢;rw[if_neg c5];by_cases c6:x.k=6
 ·rw[if_pos c6]at h⊢;unfold goalS at h⊢;by_cases a0:x.ask=0
  ·rw[if_pos a0,if_pos a0]
  rw[if_neg a0]at h⊢;rw[if_neg a0];by_cases a1:x.ask=1
  ·rw[if_pos a1,if_pos a1]
  rw[if_neg a1]at h⊢;rw[if_neg a1];by_cases a2:x.ask=2
  ·rw[if_pos a2]
  ·rw[if_neg a2]at h;cases h
 ·rw[if_neg c6]at h;cases h
theorem one_text {x:It} (hr:RngI x) (h:(itemS x).2=true) (hf:fitsS (itemS x).1=true):textP (itemS x).1=([x],0,0):=by
 have h5:=(vitem_ok hr h).2.1 [] [] Sp.nil;generalize hu:(itemS x).1=u at*;obtain ⟨h1,h2⟩:=h5.toks;rw[←h1,blank_join]at h2;have h3:=toks_join [] _ (blankL u) (Nat.le_refl _);rw[h2,blankL_nil,toks_nil]at h3;have h4:YtpfhgkielakmoaaGreatDoor.toks (blankL u)=some (itemT x):=by
  cases hq:YtpfhgkielakmoaaGreatDoor.toks (blankL u) with
  |none=>rw[hq]at h3;cases h3
  |some q=>
   rw[hq]at h3;simp at h3;rw[h3]
 have h6:(splitR u).2.2=0:=eq_of_beq hf;obtain ⟨h7,h8⟩:=(splitR_iff h4).1 h6;have ha:=all_of (l:=[x]) 512 [] (fun y hy=>by rw[List.mem_singleton.1 hy];exact hr) (fun y hy=>by rw[List.mem_singleton.1 hy];exact h) (by show 1≤512;omega);have e:toksT [x]=itemT x:=by simp[toksT]
 rw[e,List.nil_append]at ha;exact text_of h7 h4 h8 ha
theorem ex0_of {p q:Ex0} (h:ex0B p q=true):p=q:=by
 obtain ⟨a,b,c,m⟩:=p;obtain ⟨a',b',c',m'⟩:=q;simp[ex0B]at h;obtain ⟨h1,h2,h3,h4,h5⟩:=h;subst h1 h2 h3 h4 h5;rfl
theorem ex0s_of:∀{a b:List Ex0},ex0sB a b=true→a=b
 |[],[],_=>rfl
 |p::a,q::b,h=>by
  have h':(ex0B p q&&ex0sB a b)=true:=h;rw[Bool.and_eq_true]at h';rw[ex0_of h'.1,ex0s_of h'.2]
 |[],_::_,h=>by cases h
 |_::_,[],h=>by cases h
theorem ex_of {p q:Ex} (h:exB p q=true):p=q:=by
 obtain ⟨a,b,c,m⟩:=p;obtain ⟨a',b',c',m'⟩:=q;unfold exB at h;rw[Bool.and_eq_true]at h;have h2:=ex0s_of h.2;have h1:=h.1;dsimp only at h2;subst h2;simp at h1;obtain ⟨e1,e2,e3⟩:=h1;subst e1 e2 e3;rfl
theorem exs_of:∀{a b:List Ex},exsB a b=true→a=b
 |[],[],_=>rfl
 |p::a,q::b,h=>by
  have h':(exB p q&&exsB a b)=true:=h;rw[Bool.and_eq_true]at h';rw[ex_of h'.1,exs_of h'.2]
 |[],_::_,h=>by cases h
 |_::_,[],h=>by cases h
theorem dom_of:∀{a b:List (Int×Int)},domB a b=true→a=b
 |[],[],_=>rfl
 |p::a,q::b,h=>by
  have h':((p.1==q.1&&p.2==q.2)&&domB a b)=true:=h;simp only[Bool.and_eq_true,beq_iff_eq]at h';rw[dom_of h'.2];congr 1;exact Prod.ext h'.1.1 h'.1.2
 |[],_::_,h=>by cases h
 |_::_,[],h=>by cases h
theorem it_of {p q:It} (h:itB p q=true):p=q:=by
 obtain ⟨a,b,c,d,e,f,g,i⟩:=p;obtain ⟨a',b',c',d',e',f',g',i'⟩:=q;unfold itB at h;simp only[Bool.and_eq_true]at h;obtain ⟨h1,h2,h3⟩:=h;have h2':g=g':=exs_of h2;have h3':d=d':=dom_of h3;subst h2' h3';simp at h1;obtain ⟨e1,e2,e3,e4,e5,e6⟩:=h1;subst e1 e2 e3 e4 e5 e6;rfl
theorem its_one {l:List It} {x:It} (h:itsB l [x]=true):l=[x]:=by
 match l,h with
 |[y],h=>
  have h':(itB y x&&true)=true:=h;rw[Bool.and_true]at h';rw[it_of h']
 |[],h=>cases h
 |y::z::q,h=>
  have h':(itB y x&&false)=true:=h;rw[Bool.and_false]at h';cases h'
def NoLong (s:List UInt8):Prop:=∀i n,(∀j,j<n→∃c,s[i+j]? =some c∧isWord c=true)→n≤150
theorem NoLong.short {s:List UInt8} (h:s.length≤150):NoLong s:=fun i n hn=>by
 cases n with
 |zero=>omega
 |succ n=>
  obtain ⟨c,hc,_⟩:=hn n (by omega);have:=(List.getElem?_eq_some_iff.1 hc).1;omega
theorem NoLong.sep {a b:List UInt8} {c:UInt8} (ha:NoLong a) (hb:NoLong b) (hc:isWord c=false):NoLong (a++c::b):=fun i n hn=>by
 by_cases h1:i+n≤a.length
 ·refine ha i n fun j hj=> ?_;obtain ⟨d,hd,hw⟩:=hn j hj;rw[List.getElem?_append_left (by omega)]at hd;exact ⟨d,hd,hw⟩
 ·by_cases h2:a.length<i
  ·refine hb (i-a.length-1) n fun j hj=> ?_;obtain ⟨d,hd,hw⟩:=hn j hj;rw[List.getElem?_append_right (by omega),show i+j-a.length=(i-a.length-1+j)+1 by omega,List.getElem?_cons_succ]at hd;exact ⟨d,hd,hw⟩
  ·exfalso;obtain ⟨d,hd,hw⟩:=hn (a.length-i) (by omega);rw[show i+(a.length-i)=a.length by omega,List.getElem?_append_right (Nat.le_refl _),Nat.sub_self,List.getElem?_cons_zero]at hd;injection hd with hd;rw[←hd,hc]at hw;cases hw
theorem NoLong.gap {a b:List UInt8} (ha:NoLong a) (hb:NoLong b):∀{s:List UInt8},s≠[]→(∀c∈s,isWord c=false)→NoLong (a++s++b)
 |[],h,_=>absurd rfl h
 |[c],_,h=>by
  rw[List.append_assoc];exact ha.sep hb (h c List.mem_cons_self)
 |c::d::s,_,h=>by
  have:=NoLong.gap (a:=[]) (b:=b) (NoLong.short (Nat.zero_le _)) hb (s:=d::s) (by simp) (fun x hx=>h x (List.mem_cons_of_mem _ hx));rw[List.append_assoc];exact ha.sep (by simpa using this) (h c List.mem_cons_self)
theorem NoLong.tail {a:List UInt8} (ha:NoLong a) {s:List UInt8} (h:∀c∈s,isWord c=false):NoLong (a++s):=by
 cases s with
 |nil=>rw[List.append_nil];exact ha
 |cons c s=>
  have:=ha.gap (b:=[]) (NoLong.short (Nat.zero_le _)) (s:=c::s) (by simp) h;rwa[List.append_nil]at this
theorem NoLong.join:∀{ts:List (List UInt8)},(∀t∈ts,NoLong t)→NoLong (Lib.join ts [44,32])
 |[],_=>NoLong.short (Nat.zero_le _)
 |[a],h=>by
  have e:Lib.join [a] [44,32]=a:=by simp[Lib.join,List.intercalate]
  rw[e];exact h a List.mem_cons_self
 |a::b::r,h=>by
  rw[join_two,←List.append_assoc];exact (h a List.mem_cons_self).gap (NoLong.join fun t ht=>h t (List.mem_cons_of_mem _ ht)) (by simp) (by decide)
theorem NoLong.num {n:Int} (h:I64 n):NoLong (Lib.itoa n):=NoLong.short (Nat.le_trans (itoa_len h) (by decide))
theorem NoLong.plain {y:Ex0} (hn:I64 y.n) (hs:y.s.length≤100):NoLong (rplainS y):=by
 unfold rplainS;split
 ·exact NoLong.num hn
 ·split
  ·split
   ·exact NoLong.short (by decide)
   ·exact NoLong.short (by decide)
  ·exact NoLong.short (by omega)
theorem NoLong.list {l:List Ex0} (h:∀y∈l,I64 y.n∧y.s.length≤100):NoLong (rlistS l):=NoLong.join fun t ht=>by
 obtain ⟨y,hy,rfl⟩:=List.mem_map.1 ht;exact NoLong.plain (h y hy).1 (h y hy).2
theorem NoLong.brack {a:List UInt8} (ha:NoLong a):NoLong (91::(a++[93])):=by
 have:=NoLong.sep (a:=[]) (c:=91) (NoLong.short (Nat.zero_le _)) (ha.tail (s:=[93]) (by decide)) (by decide);exact this
theorem NoLong.size {x:It} (h:I64 x.size):NoLong (sizeS x):=NoLong.short (by
 unfold sizeS;have:=itoa_len h;rw[List.length_append,List.length_append];show 4+_+1≤_;omega)
theorem NoLong.text {x:It} (hr:RngI x) (hf:FewP x):NoLong (rtextS x):=by
 have hT:NoLong (truthS x.bool):=by cases x.bool<;>exact NoLong.short (by decide)
 have hN:NoLong x.name:=NoLong.short (by have:=hf.1;omega);have hL:NoLong (rlistS (x.vals.map Ex.low)):=NoLong.list fun z hz=>by
  obtain ⟨y,hy,rfl⟩:=List.mem_map.1 hz;exact ⟨(hr.2.2 y hy).1,(hf.2.2.2 y hy).1⟩
 unfold rtextS;split
 ·exact (((hT.gap hN (by simp) (by decide)).gap hL (by simp) (by decide)).tail (by decide))
 split
 ·unfold rvarS;have hD:NoLong (rdomS x):=by
   unfold rdomS;split
   ·exact NoLong.short (by decide)
   ·split
    ·rename_i r he;have h:=hr.2.1 r (by rw[he];exact List.mem_cons_self);exact (NoLong.num h.1).sep (NoLong.sep (a:=[]) (c:=46) (NoLong.short (Nat.zero_le _)) (NoLong.num h.2) (by decide)) (by decide)
    ·have hj:NoLong (Lib.join (x.dom.map fun r=>Lib.itoa r.1) [44,32]):=NoLong.join fun t ht=>by
      obtain ⟨r,hx,rfl⟩:=List.mem_map.1 ht;exact NoLong.num (hr.2.1 r hx).1
     exact NoLong.sep (a:=[]) (c:=123) (NoLong.short (Nat.zero_le _)) (hj.tail (s:=[125]) (by decide)) (by decide)
  have h0:NoLong ([118,97,114,32]++rdomS x):=(NoLong.short (s:=[118,97,114]) (by decide)).sep hD (c:=32) (by decide);have h1:=h0.gap hN (s:=[58,32]) (by simp) (by decide);have h2:NoLong ([118,97,114,32]++rdomS x++[58,32]++x.name++(if x.out then [32,58,58,32]++wOutVar else [])):=by
   split
   ·rw[←List.append_assoc];exact h1.gap (NoLong.short (by decide)) (by simp) (by decide)
   ·rw[List.append_nil];exact h1
  have hP:∀y∈x.vals,NoLong (rplainS y.low):=fun y hy=>NoLong.plain (y:=y.low) (hr.2.2 y hy).1 (hf.2.2.2 y hy).1;have h3:NoLong ([118,97,114,32]++rdomS x++[58,32]++x.name++(if x.out then [32,58,58,32]++wOutVar else [])++(match x.vals with|[]=>[]|y::_=>[32,61,32]++rplainS y.low)):=by
   clear hL hr hf;revert hP;generalize x.vals=vs;intro hP;cases vs with
   |nil=>
    rw[List.append_nil];exact h2
   |cons y r=>
    dsimp only;rw[←List.append_assoc];exact h2.gap (hP y List.mem_cons_self) (by simp) (by decide)
  exact h3.tail (by decide)
 split
 ·unfold rarrS;have hS:=NoLong.size hr.1;have a1:NoLong (wArray++[32]++sizeS x):=(NoLong.short (s:=wArray) (by decide)).gap hS (by simp) (by decide);have a2:NoLong (wArray++[32]++sizeS x++[32,111,102,32]):=by
   have:=(a1.sep (c:=32) (NoLong.short (s:=[111,102]) (by decide)) (by decide)).tail (s:=[32]) (by decide);simpa using this
  have a3:∀{b:List UInt8},NoLong b→NoLong (wArray++[32]++sizeS x++[32,111,102,32]++b):=fun {b} hb=>by
   have:=(a1.sep (c:=32) (NoLong.short (s:=[111,102]) (by decide)) (by decide)).gap hb (s:=[32]) (by simp) (by decide);simpa using this
  have a4:NoLong (wArray++[32]++sizeS x++[32,111,102,32]++(if x.k=4 then [118,97,114,32] else [])++truthS x.bool):=by
   split
   ·have:=(a3 (b:=[118,97,114]) (NoLong.short (by decide))).gap hT (s:=[32]) (by simp) (by decide);simpa using this
   ·rw[List.append_nil];exact a3 hT
  have a5:=a4.gap hN (s:=[58,32]) (by simp) (by decide);have a6:NoLong (wArray++[32]++sizeS x++[32,111,102,32]++(if x.k=4 then [118,97,114,32] else [])++truthS x.bool++[58,32]++x.name++(if x.out then [32,58,58,32]++wOutArray++[40]++sizeS x++[41] else [])):=by
   by_cases ho:x.out=true
   ·rw[if_pos ho];have:=((a5.gap (NoLong.short (s:=wOutArray) (by decide)) (s:=[32,58,58,32]) (by simp) (by decide)).gap hS (s:=[40]) (by simp) (by decide)).tail (s:=[41]) (by decide);simpa[List.append_assoc]using this
   ·rw[if_neg ho,List.append_nil];exact a5
  exact (a6.gap hL (s:=[32,61,32,91]) (by simp) (by decide)).tail (by decide)
 split
 ·have hA:NoLong (rargsS x.vals):=NoLong.join fun t ht=>by
   obtain ⟨y,hy,rfl⟩:=List.mem_map.1 ht;unfold rargS;split
   ·exact (NoLong.list fun z hz=>⟨(hr.2.2 y hy).2 z hz,(hf.2.2.2 y hy).2.2 z hz⟩).brack
   ·exact NoLong.plain (y:=y.low) (hr.2.2 y hy).1 (hf.2.2.2 y hy).1
  exact ((((NoLong.short (s:=wConstraint) (by decide)).gap hN (s:=[32]) (by simp) (by decide)).gap hA (s:=[40]) (by simp) (by decide)).tail (by decide))
 split
 ·exact NoLong.short (by decide)
 split
 ·exact (NoLong.short (by rw[List.length_append];have:=hf.1;show 15+_≤_;omega)).tail (by decide)
 ·exact (NoLong.short (by rw[List.length_append];have:=hf.1;show 15+_≤_;omega)).tail (by decide)
theorem word_alone {t:List UInt8} {v:Int} (h:Alone (1,t,v)):∀c∈t,isWord c=true:=by
 obtain ⟨h1,h2,_⟩:=h;dsimp only at h1;cases t with
 |nil=>intro c hc;cases hc
 |cons x r=>
  unfold wordL at h1;dsimp only at h1;by_cases c1:isLetter x=true
  ·rw[if_pos c1]at h1;injection h1 with _ h1;rw[List.length_cons]at h1;have hl:(r.takeWhile isWord).length=r.length:=by omega
   have e:=List.takeWhile_append_dropWhile (p:=isWord) (l:=r);have hd:r.dropWhile isWord=[]:=by
    have:=congrArg List.length e;rw[List.length_append]at this;exact List.length_eq_zero_iff.1 (by omega)
   rw[hd,List.append_nil]at e;intro c hc;rcases List.mem_cons.1 hc with rfl|hc
   ·unfold isWord;rw[c1];rfl
   ·rw[←e]at hc;exact takeWhile_mem isWord r c hc
  ·rw[if_neg c1]at h1;exfalso;split at h1
   ·injection h1 with h1 _;exact absurd h1 (by decide)
   ·split at h1
    ·injection h1 with h1 _;exact absurd h1 (by decide)
    ·split at h1
     ·injection h1 with h1 _;exact absurd h1 (by decide)
     ·split at h1
      ·injection h1 with h1 _;exact absurd h1 (by decide)
      ·injection h1 with h1 _;exact absurd h1 (by decide)
theorem places_at {L:List UInt8}:∀{ts:List Tok} {last:Nat},placesOK L last ts→∀t∈ts,∃a:Nat,(L.drop a).take t.t.length=t.t
 |x::l,last,⟨a,_,_,_,_,h6,_,_,_,_,h⟩,t,ht=>by
  rcases List.mem_cons.1 ht with rfl|ht
  ·exact ⟨a,h6⟩
  ·exact places_at h t ht
theorem at_runs {s:List UInt8} (hs:NoLong s) (h:(splitR s).2.2=0):AT (splitR s).1:=fun t ht=>by
 obtain ⟨ts,e1,e2,_⟩:=splitR_ok h;have hal:=toks_alone _ _ (Nat.le_refl _) ts e1 (stripT t) (by rw[←e2];exact List.mem_map_of_mem ht);refine ⟨hal,fun hk=> ?_⟩;obtain ⟨a,ha⟩:=places_at ((places_plain s).1 h).2 t ht;have hw:∀c∈t.t,isWord c=true:=by
  obtain ⟨k,w,v,p⟩:=t;have hk':k=1:=hk;subst hk';exact word_alone hal
 have:=hs a t.t.length fun j hj=>by
  refine ⟨t.t[j],?_,hw _ (List.getElem_mem hj)⟩;have h2:((s.drop a).take t.t.length)[j]? =t.t[j]? :=by rw[ha]
  rw[List.getElem?_take_of_lt hj,List.getElem?_drop,List.getElem?_eq_getElem hj]at h2;exact h2
 omega
theorem right_eq {x:It} (hr:RngI x) (hf:FewP x):rightR x=okI x.flat∧(rightR x=true→rtextS x=(itemS x.flat).1):=by
 have hA:okI x.flat=true→rightR x=true∧rtextS x=(itemS x.flat).1:=fun h=>by
  unfold okI at h;rw[Bool.and_eq_true]at h;have hlow:=(vitem_ok (rngI_flat hr) h.1).1;have he:=lowI_unflat hlow;rw[he]at h hlow⊢;have hrt:=rtext_eq h.1;refine ⟨?_,hrt⟩;have ht:=one_text hr h.1 h.2;unfold rightR;rw[hrt,ht];have i1:=itsB_refl (l:=[x]) (fun y hy=>by rw[List.mem_singleton.1 hy];exact hlow);simp only[i1,Bool.and_eq_true,decide_eq_true_eq,List.all_eq_true];exact ⟨hlow.2.1,hlow.1,fun y hy=>(hlow.2.2 y hy).1,rfl,trivial⟩
 have hB:rightR x=true→okI x.flat=true:=fun h=>by
  unfold rightR at h;simp only[Bool.and_eq_true,beq_iff_eq]at h;obtain ⟨_,_,_,h4,h5⟩:=h;have hy:=its_one h5;have hsp:=(textP_split h4).1;have hfine:=parse_fine (at_runs (NoLong.text hr hf) hsp) h4;have hlow:=textP_low (rtextS x);rw[hy]at hfine hlow;obtain ⟨_,hi⟩:=hfine x List.mem_cons_self;have he:=(hlow x List.mem_cons_self).flat;rw[he];unfold okI;rw[hi,←rtext_eq hi,Bool.true_and];unfold fitsS;rw[hsp];rfl
 refine ⟨?_,fun h=>(hA (hB h)).2⟩;cases hq:okI x.flat with
 |true=>exact (hA hq).1
 |false=>
  cases hp:rightR x with
  |false=>rfl
  |true=>rw[hB hp]at hq;cases hq
end Go.Proofs.YtpfhgkielakmoaaGreatDoor
set_option maxHeartbeats 4000000
set_option maxRecDepth 100000
set_option linter.unusedSimpArgs false
set_option linter.unusedVariables false
namespace Go.Proofs.YtpfhgkielakmoaaGreatDoor
open Go.RowKit Num Go.Joins
theorem h7num_any (n:Int) (hn:I64 n) (w:World) (hE:Env w):Calls Tryz.prog 98 #[.int .i64 n] w fun e w'=>e= .returned (.string ⟨(Lib.itoa n).toArray⟩)∧Below w.heap.size w w':=by
 go_enter Tryz.func98,Tryz.ntmps98;go_wp2_with fail;refine (Tryz.strconv_FormatInt_10 n hn.1 hn.2 w hE.tab).mono ?_;rintro e w1 ⟨rfl,k,os,rfl⟩;have q:=Lib.below_grow w.heap.size w (Nat.le_refl _) k os;go_wp2_with fail;go_ret;exact ⟨rfl,q⟩
theorem h7kind_any (b:Bool) (w:World):Calls Tryz.prog 50 #[.bool b] w fun e w'=>e= .returned (.string ⟨(truthS b).toArray⟩)∧Below w.heap.size w w':=by
 cases b with
 |true=>
  go_enter Tryz.func50,Tryz.ntmps50;go_wp2_with fail;go_ret;exact ⟨rfl,Below.refl _ _⟩
 |false=>
  go_enter Tryz.func50,Tryz.ntmps50;go_wp2_with fail;go_ret;exact ⟨rfl,Below.refl _ _⟩
theorem h7plain_any (k n:Int) (s:List UInt8) (m c:Nat) (A:Option Addr) (hn:I64 n) (w:World) (hE:Env w):Calls Tryz.prog 96 #[.agg #[.int .i64 k,.int .i64 n,.string ⟨s.toArray⟩,.slice A m c]] w fun e w'=>e= .returned (.string ⟨(rplainS ⟨k,n,s,m⟩).toArray⟩)∧Below w.heap.size w w':=by
 have q0:=below_alloc1 w (.cells #[.int .i64 k,.int .i64 n,.string ⟨s.toArray⟩,.slice A m c] 50);have hE1:=hE.below q0;by_cases c1:k=1
 ·subst c1;have HF:=Lib.hid (show rplainS ⟨1,n,s,m⟩=Lib.itoa n from rfl);go_enter Tryz.func96,Tryz.ntmps96;go_wp2_with fail;refine (h7num_any n hn _ hE1).mono ?_;rintro e w1 ⟨rfl,q1⟩;go_wp2_with fail;go_ret;exact ⟨by rw[HF.out];rfl,below_trans q0 q1⟩
 ·by_cases c2:k=2
  ·subst c2;by_cases n1:n=1
   ·subst n1;have HF:=Lib.hid (show rplainS ⟨2,1,s,m⟩=wTrue from rfl);go_enter Tryz.func96,Tryz.ntmps96;go_wp2_with fail;go_ret;exact ⟨by rw[HF.out];rfl,q0⟩
   ·have HF:=Lib.hid (show rplainS ⟨2,n,s,m⟩=wFalse by unfold rplainS;rw[if_neg (show ¬(2:Int)=1 by decide),if_pos rfl,if_neg n1]);go_enter Tryz.func96,Tryz.ntmps96;go_wp2_with fail;go_ret;exact ⟨by rw[HF.out];rfl,q0⟩
  ·have HF:=Lib.hid (show rplainS ⟨k,n,s,m⟩=s by unfold rplainS;rw[if_neg c1,if_neg c2]);go_enter Tryz.func96,Tryz.ntmps96;go_wp2_with fail;go_ret;exact ⟨by rw[HF.out];rfl,q0⟩
theorem joinC_snoc (ts:List (List UInt8)) (t:List UInt8):Lib.join (ts++[t]) [44,32]=if ts=[] then t else Lib.join ts [44,32]++([44,32]++t):=by
 induction ts with
 |nil=>simp[Lib.join,List.intercalate]
 |cons a ts ih=>
  rw[if_neg (by simp)];cases ts with
  |nil=>simp[Lib.join,List.intercalate]
  |cons b r=>
   rw[if_neg (by simp)]at ih;have e1:a::(b::r)++[t]=a::b::(r++[t]):=rfl;have e2:b::r++[t]=b::(r++[t]):=rfl;rw[e2]at ih;rw[e1,join_two,join_two,ih];simp only[List.append_assoc]
theorem rplain_len {y:Ex0} (hn:I64 y.n) (hs:y.s.length≤100):(rplainS y).length≤100:=by
 unfold rplainS;split
 ·have:=itoa_len hn;omega
 ·split
  ·split<;>decide
  ·exact hs
theorem rlist_len {l:List Ex0} (h:∀y∈l,I64 y.n∧y.s.length≤100):(rlistS l).length≤102*l.length:=by
 have:=joinC_len 100 (l.map rplainS) (fun t ht=>by
  obtain ⟨y,hy,rfl⟩:=List.mem_map.1 ht;exact rplain_len (h y hy).1 (h y hy).2)
 rw[List.length_map]at this;exact this
theorem h7list_gen {α:Type} (low:α→Ex0) (A:Option Addr) (c:Nat) (l:List α) (w:World) (hE:Env w) (ha:∀w',Below w.heap.size w w'→l≠[]→∃b o,A=some ⟨b,o,none⟩∧b<w'.heap.size∧∀j (hj:j<l.length),w'.cell? ⟨b,o+j*4,none⟩=some (.int .i64 (low l[j]).k)∧w'.cell? ⟨b,o+j*4+1,none⟩=some (.int .i64 (low l[j]).n)∧w'.cell? ⟨b,o+j*4+2,none⟩=some (.string ⟨(low l[j]).s.toArray⟩)∧∃A3 c3,w'.cell? ⟨b,o+j*4+3,none⟩=some (.slice A3 (low l[j]).m c3)) (hn:l.length≤200) (hs:∀y∈l,I64 (low y).n∧(low y).s.length≤100):Calls Tryz.prog 51 #[.slice A l.length c] w fun e w'=>e= .returned (.string ⟨(rlistS (l.map low)).toArray⟩)∧Below w.heap.size w w':=by
 have HS:=Lib.hid hs;clear hs;go_enter Tryz.func51,Tryz.ntmps51;go_wp2_with fail;go_loopg [3,4] l.length (fun k v a wr=>∃j u,k=l.length-j∧j≤l.length∧a= .int .i64 (j:Nat)∧v= .string u∧Hid (u.data.toList=rlistS ((l.take j).map low))∧u.size≤102*j∧Below w.heap.size w wr)
 case atStart=>exact ⟨0,⟨#[]⟩,rfl,Nat.zero_le _,rfl,rfl,rfl,by decide,Below.refl _ _⟩
 case round=>
  obtain ⟨j,u,hk,hj,rfl,rfl,hu,hus,hq⟩:=hrel;by_cases hlt:j<l.length
  ·have d1:decide ((j:Int)<(l.length:Int))=true:=decide_eq_true (by omega);obtain ⟨b,o,hA,hb,hc⟩:=ha wr hq (by intro e;rw[e]at hlt;cases hlt);obtain ⟨c1,c2,c3,A3,n3,c4⟩:=hc j hlt;clear hc ha;subst hA;obtain ⟨hs1,hs2⟩:=HS.out _ (List.getElem_mem hlt);have hj0:=joinC_snoc (((l.take j).map low).map rplainS) (rplainS (low l[j]));have htk:((l.take (j+1)).map low).map rplainS=((l.take j).map low).map rplainS++[rplainS (low l[j])]:=by rw[List.take_succ_eq_append_getElem hlt,List.map_append,List.map_append];rfl
   rw[←htk]at hj0;have HJ:=Lib.hid hj0;have hln:=rplain_len hs1 hs2;clear hj0 htk;generalize low l[j]=y at*;have HC:=Lib.hid (fun (w':World) (hE':Env w')=>h7plain_any y.k y.n y.s y.m n3 A3 hs1 w' hE');replace HC:Hid (∀w',Env w'→Calls Tryz.prog 96 #[.agg #[.int .i64 y.k,.int .i64 y.n,.string ⟨y.s.toArray⟩,.slice A3 y.m n3]] w' fun e w2=>e= .returned (.string ⟨(rplainS y).toArray⟩)∧Below w'.heap.size w' w2):=HC;have hsz:(⟨(rplainS y).toArray⟩:ByteArray).size≤100:=hln;have HT:Hid ((⟨(rplainS y).toArray⟩:ByteArray).data.toList=rplainS y):=rfl;generalize (⟨(rplainS y).toArray⟩:ByteArray)=t at*;clear hln hs1 hs2;by_cases h0:0<j
   ·go_wp2_with fail;refine (HC.out _ (hE.below hq)).mono ?_;rintro e w3 ⟨rfl,q3⟩;go_wp2_with fail;go_roundg (l.length-(j+1))
    case measure=>omega
    case rel=>
     refine ⟨j+1,_,rfl,by omega,by simp,rfl,?_,?_,below_trans hq q3⟩
     ·show _=_;unfold rlistS;rw[HJ.out,if_neg (by intro e;rw[List.map_eq_nil_iff,List.map_eq_nil_iff,List.take_eq_nil_iff]at e;rcases e with e|e;omega;rw[e]at hlt;simp at hlt)];have e1:(u++(⟨#[44,32]⟩:ByteArray)++t).data.toList=u.data.toList++([44,32]++t.data.toList):=by simp[ByteArray.data_append]
      rw[e1,hu.out,HT.out];rfl
     ·have e1:(u++(⟨#[44,32]⟩:ByteArray)++t).size=u.size+2+t.size:=by rw[ByteArray.size_append,ByteArray.size_append];rfl
      rw[e1];omega
   ·go_wp2_with fail;refine (HC.out _ (hE.below hq)).mono ?_;rintro e w3 ⟨rfl,q3⟩;go_wp2_with fail;go_roundg (l.length-(j+1))
    case measure=>omega
    case rel=>
     refine ⟨j+1,_,rfl,by omega,by simp,rfl,?_,?_,below_trans hq q3⟩
     ·show _=_;obtain rfl:j=0:=by omega
      have hu0:=hu.out;unfold rlistS;rw[HJ.out,if_pos (by simp)];have e1:(u++t).data.toList=u.data.toList++t.data.toList:=by simp[ByteArray.data_append]
      rw[e1,hu0,HT.out];simp[rlistS,Lib.join,List.intercalate]
     ·rw[ByteArray.size_append];omega
  ·have d1:decide ((j:Int)<(l.length:Int))=false:=decide_eq_false (by omega);have e1:u=⟨(rlistS (l.map low)).toArray⟩:=by
    have h1:=hu.out;rw[List.take_of_length_le (by omega)]at h1;rw[ext_eta u,h1]
   have E1:=Lib.hid e1;clear e1 hu;go_wp2;rw[←E1.out];go_ret;exact ⟨rfl,hq⟩
theorem h7list_ex {F:Nat→Prop} (A:Option Addr) (c:Nat) (l:List Ex) (w:World) (hE:Env w) (ha:(layE 50).row.P F w (.slice A l.length c) l) (hn:l.length≤200) (hs:∀y∈l,I64 y.n∧y.s.length≤100):Calls Tryz.prog 51 #[.slice A l.length c] w fun e w'=>e= .returned (.string ⟨(rlistS (l.map Ex.low)).toArray⟩)∧Below w.heap.size w w':=
 h7list_gen Ex.low A c l w hE (fun w' q hn=>by
  obtain ⟨b,o,h1,h2,h3⟩:=row_ex (Dt.below _ ha q (Nat.le_refl _)) hn;refine ⟨b,o,h1,h2,fun j hj=> ?_⟩;obtain ⟨c1,c2,c3,A3,c4,h4,-⟩:=h3 j hj;exact ⟨c1,c2,c3,A3,c4,h4⟩) hn hs
theorem h7list_e0 {F:Nat→Prop} (A:Option Addr) (c:Nat) (l:List Ex0) (w:World) (hE:Env w) (ha:(layE0 50).row.P F w (.slice A l.length c) l) (hn:l.length≤200) (hs:∀y∈l,I64 y.n∧y.s.length≤100):Calls Tryz.prog 51 #[.slice A l.length c] w fun e w'=>e= .returned (.string ⟨(rlistS l).toArray⟩)∧Below w.heap.size w w':=by
 have h:=h7list_gen id A c l w hE (fun w' q hn=>by
  obtain ⟨b,o,h1,h2,h3⟩:=row_e0 (Dt.below _ ha q (Nat.le_refl _)) hn;refine ⟨b,o,h1,h2,fun j hj=> ?_⟩;obtain ⟨c1,c2,c3,A3,c4,h4⟩:=h3 j hj;exact ⟨c1,c2,c3,A3,c4,h4⟩) hn hs
 rw[List.map_id]at h;exact h
theorem rarg_len {y:Ex} (hr:RngE y) (hs:y.s.length≤100) (hl:y.l.length≤64) (hz:∀z∈y.l,z.s.length≤100):(rargS y).length≤6530:=by
 unfold rargS;split
 ·have:=rlist_len (l:=y.l) (fun z h=>⟨hr.2 z h,hz z h⟩);rw[List.length_cons,List.length_append];show _+1+1≤_;omega
 ·have:=rplain_len (y:=y.low) hr.1 hs;omega
theorem rargs_len {l:List Ex} (h:∀y∈l,RngE y∧y.s.length≤100∧y.l.length≤64∧∀z∈y.l,z.s.length≤100):(rargsS l).length≤6532*l.length:=by
 have:=joinC_len 6530 (l.map rargS) (fun t ht=>by
  obtain ⟨y,hy,rfl⟩:=List.mem_map.1 ht;obtain ⟨h1,h2,h3,h4⟩:=h y hy;exact rarg_len h1 h2 h3 h4)
 rw[List.length_map]at this;exact this
theorem h7args_any {F:Nat→Prop} (A:Option Addr) (c:Nat) (l:List Ex) (w:World) (hE:Env w) (ha:(layE 50).row.P F w (.slice A l.length c) l) (hn:l.length≤200) (hs:∀y∈l,RngE y∧y.s.length≤100∧y.l.length≤64∧∀z∈y.l,z.s.length≤100):Calls Tryz.prog 54 #[.slice A l.length c] w fun e w'=>e= .returned (.string ⟨(rargsS l).toArray⟩)∧Below w.heap.size w w':=by
 have HS:=Lib.hid hs;clear hs;go_enter Tryz.func54,Tryz.ntmps54;go_wp2_with fail;go_loopg [3,4] l.length (fun k v a wr=>∃j u,k=l.length-j∧j≤l.length∧a= .int .i64 (j:Nat)∧v= .string u∧Hid (u.data.toList=rargsS (l.take j))∧u.size≤6532*j∧Below w.heap.size w wr)
 case atStart=>exact ⟨0,⟨#[]⟩,rfl,Nat.zero_le _,rfl,rfl,rfl,by decide,Below.refl _ _⟩
 case round=>
  obtain ⟨j,u,hk,hj,rfl,rfl,hu,hus,hq⟩:=hrel;by_cases hlt:j<l.length
  ·have d1:decide ((j:Int)<(l.length:Int))=true:=decide_eq_true (by omega);obtain ⟨b,o,hA,hb,hc⟩:=row_ex (Dt.below _ ha hq (Nat.le_refl _)) (by intro e;rw[e]at hlt;cases hlt);obtain ⟨c1,c2,c3,A3,n3,c4,hrow⟩:=hc j hlt;clear hc;subst hA;obtain ⟨hr,hs2,hs3,hs4⟩:=HS.out _ (List.getElem_mem hlt);have hj0:=joinC_snoc ((l.take j).map rargS) (rargS l[j]);have htk:(l.take (j+1)).map rargS=(l.take j).map rargS++[rargS l[j]]:=by rw[List.take_succ_eq_append_getElem hlt,List.map_append];rfl
   rw[←htk]at hj0;have HJ:=Lib.hid hj0;clear hj0 htk;generalize l[j]=y at*;have hE1:=hE.below hq;by_cases hk4:y.k=4
   ·have HC:=Lib.hid (h7list_e0 A3 n3 y.l wr hE1 hrow (by omega) (fun z hz=>⟨hr.2 z hz,hs4 z hz⟩));have hln:=rlist_len (l:=y.l) (fun z hz=>⟨hr.2 z hz,hs4 z hz⟩);have HR:=Lib.hid (show rargS y=91::(rlistS y.l++[93]) from if_pos hk4);have hsz:(⟨(rlistS y.l).toArray⟩:ByteArray).size≤6528:=by
     show (rlistS y.l).length≤_;omega
    have ht:(⟨(rlistS y.l).toArray⟩:ByteArray).data.toList=rlistS y.l:=rfl;generalize (⟨(rlistS y.l).toArray⟩:ByteArray)=t at*;have HT:=Lib.hid ht;rw[hk4]at c1;clear hln ht hr hs2 hs3 hs4 hrow hk4;generalize y.l.length=n at*;by_cases h0:0<j
    ·go_wp2_with fail;refine HC.out.mono ?_;rintro e w3 ⟨rfl,q3⟩;go_wp2_with fail;go_roundg (l.length-(j+1))
     case measure=>omega
     case rel=>
      refine ⟨j+1,_,rfl,by omega,by simp,rfl,?_,?_,below_trans hq q3⟩
      ·show _=_;unfold rargsS;rw[HJ.out,if_neg (by intro e;rw[List.map_eq_nil_iff,List.take_eq_nil_iff]at e;rcases e with e|e;omega;rw[e]at hlt;simp at hlt),HR.out];simp only[ByteArray.data_append,Array.toList_append,hu.out,HT.out];simp[rargsS]
      ·simp only[ByteArray.size_append];(show u.size+2+1+t.size+1≤_;omega)
    ·go_wp2_with fail;refine HC.out.mono ?_;rintro e w3 ⟨rfl,q3⟩;go_wp2_with fail;go_roundg (l.length-(j+1))
     case measure=>omega
     case rel=>
      refine ⟨j+1,_,rfl,by omega,by simp,rfl,?_,?_,below_trans hq q3⟩
      ·show _=_;obtain rfl:j=0:=by omega
       have hu0:=hu.out;unfold rargsS;rw[HJ.out,if_pos (by simp),HR.out];simp only[ByteArray.data_append,Array.toList_append,hu0,HT.out];simp[rargsS,Lib.join,List.intercalate]
      ·simp only[ByteArray.size_append];(show u.size+1+t.size+1≤_;omega)
   ·have hk5:(y.k==4)=false:=by simp[hk4]
    have HC:=Lib.hid (h7plain_any y.k y.n y.s y.l.length n3 A3 hr.1 wr hE1);have hln:=rplain_len (y:=y.low) hr.1 hs2;have HR:=Lib.hid (show rargS y=rplainS y.low from if_neg hk4);have hsz:(⟨(rplainS y.low).toArray⟩:ByteArray).size≤100:=hln;have ht:(⟨(rplainS y.low).toArray⟩:ByteArray).data.toList=rplainS y.low:=rfl;replace HC:Hid (Calls Tryz.prog 96 #[.agg #[.int .i64 y.k,.int .i64 y.n,.string ⟨y.s.toArray⟩,.slice A3 y.l.length n3]] wr fun e w'=>e= .returned (.string ⟨(rplainS y.low).toArray⟩)∧Below wr.heap.size wr w'):=HC;generalize (⟨(rplainS y.low).toArray⟩:ByteArray)=t at*;have HT:=Lib.hid ht;clear hln ht hr hs2 hs3 hs4 hrow hk4;by_cases h0:0<j
    ·go_wp2_with fail;refine HC.out.mono ?_;rintro e w3 ⟨rfl,q3⟩;go_wp2_with fail;go_roundg (l.length-(j+1))
     case measure=>omega
     case rel=>
      refine ⟨j+1,_,rfl,by omega,by simp,rfl,?_,?_,below_trans hq q3⟩
      ·show _=_;unfold rargsS;rw[HJ.out,if_neg (by intro e;rw[List.map_eq_nil_iff,List.take_eq_nil_iff]at e;rcases e with e|e;omega;rw[e]at hlt;simp at hlt),HR.out];simp only[ByteArray.data_append,Array.toList_append,hu.out,HT.out];simp[rargsS]
      ·simp only[ByteArray.size_append];(show u.size+2+t.size≤_;omega)
    ·go_wp2_with fail;refine HC.out.mono ?_;rintro e w3 ⟨rfl,q3⟩;go_wp2_with fail;go_roundg (l.length-(j+1))
     case measure=>omega
     case rel=>
      refine ⟨j+1,_,rfl,by omega,by simp,rfl,?_,?_,below_trans hq q3⟩
      ·show _=_;obtain rfl:j=0:=by omega
       have hu0:=hu.out;unfold rargsS;rw[HJ.out,if_pos (by simp),HR.out];simp only[ByteArray.data_append,Array.toList_append,hu0,HT.out];simp[rargsS,Lib.join,List.intercalate]
      ·simp only[ByteArray.size_append];(show u.size+t.size≤_;omega)
  ·have d1:decide ((j:Int)<(l.length:Int))=false:=decide_eq_false (by omega);have e1:u=⟨(rargsS l).toArray⟩:=by
    have h1:=hu.out;rw[List.take_of_length_le (by omega)]at h1;rw[ext_eta u,h1]
   have E1:=Lib.hid e1;clear e1 hu;go_wp2;rw[←E1.out];go_ret;exact ⟨rfl,hq⟩
end Go.Proofs.YtpfhgkielakmoaaGreatDoor

/-
  Joined texts: Vc, Vd, Th.
-/
import Derived.Test.YtpfhgkielakmoaaGreatDoorVb
import Derived.Lib.Strings
import Derived.Lib.Join
import Derived.Test.YtpfhgkielakmoaaGreatDoorPa
set_option linter.unusedSimpArgs false
set_option linter.unusedVariables false
namespace Go.Proofs.YtpfhgkielakmoaaGreatDoor
abbrev TX:=List UInt8×Bool
def plain0S (y:Ex0):TX:=
 if 0<y.m then ([],false)
 else if y.k=1∧y.s=[] then (Lib.itoa y.n,true)
 else if y.k=2∧y.s=[]∧y.n=1 then (wTrue,true)
 else if y.k=2∧y.s=[]∧y.n=0 then (wFalse,true)
 else if y.k=3∧y.n=0∧nameB y.s=true then (y.s,true)
 else ([],false)
def joinS (ps:List TX):TX:=if 64<ps.length then ([],false) else if ps.all (·.2)=true then (Lib.join (ps.map (·.1)) [44,32],true) else ([],false)
def plainS (x:Ex):TX:=plain0S x.low
def exprS (x:Ex):TX:=if x.k≠4 then plainS x else (91::((joinS (x.l.map plain0S)).1++[93]),(joinS (x.l.map plain0S)).2&&(x.n==0&&x.s==[]))
def domS (x:It):TX:=
 if x.bool=true then (wBool,x.dom.isEmpty)
 else match x.dom with
  |[r]=>(Lib.itoa r.1++(46::46::Lib.itoa r.2),true)
  |d=>if d=[]∨256<d.length then ([],false) else if d.all (fun r=>r.1==r.2)=true then (123::(Lib.join (d.map fun r=>Lib.itoa r.1) [44,32]++[125]),true) else ([],false)
def truthS (b:Bool):List UInt8:=if b then wBool else wInt
def bareB (x:It):Bool:=x.dom.isEmpty&&(x.size==0&&(!x.out&&x.ask==0))
def parS (x:It):TX:=
 (truthS x.bool++[58,32]++x.name++[32,61,32]++(joinS (x.vals.map plainS)).1++[59],
  (joinS (x.vals.map plainS)).2&&((x.vals.length==1)&&((x.vals.map (·.k)==[if x.bool then 2 else 1])&&(bareB x&&nameB x.name))))
def varS (x:It):TX:=
 ([118,97,114,32]++(domS x).1++[58,32]++x.name++(if x.out then [32,58,58,32]++wOutVar else [])++(if x.vals.isEmpty then [] else [32,61,32]++(joinS (x.vals.map plainS)).1)++[59],
  (domS x).2&&((joinS (x.vals.map plainS)).2&&(decide (x.vals.length≤1)&&(x.size==0&&(x.ask==0&&nameB x.name)))))
def sizeS (x:It):List UInt8:=[91,49,46,46]++Lib.itoa x.size++[93]
def arrS (x:It):TX:=
 (wArray++[32]++sizeS x++[32,111,102,32]++(if x.k=4 then [118,97,114,32] else [])++truthS x.bool++[58,32]++x.name++(if x.out then [32,58,58,32]++wOutArray++[40]++sizeS x++[41] else [])++[32,61,32,91]++(joinS (x.vals.map plainS)).1++[93,59],
  (joinS (x.vals.map plainS)).2&&(x.dom.isEmpty&&(x.ask==0&&((!x.out||x.k==4)&&nameB x.name))))
def conS (x:It):TX:=
 (wConstraint++[32]++x.name++[40]++(joinS (x.vals.map exprS)).1++[41,59],
  (joinS (x.vals.map exprS)).2&&(bareB x&&(!x.bool&&nameB x.name)))
def goalS (x:It):TX:=
 if x.ask=0 then (wSolve++[32]++wSatisfy++[59],(x.dom.isEmpty&&(x.size==0&& !x.out))&&(!x.bool&&(x.vals.isEmpty&&x.name==[])))
 else if x.ask=1 then (wSolMin++x.name++[59],(x.dom.isEmpty&&(x.size==0&& !x.out))&&(!x.bool&&(x.vals.isEmpty&&nameB x.name)))
 else if x.ask=2 then (wSolve++[32]++wMaximize++[32]++x.name++[59],(x.dom.isEmpty&&(x.size==0&& !x.out))&&(!x.bool&&(x.vals.isEmpty&&nameB x.name)))
 else ([],false)
def itemS (x:It):TX:=
 if x.k=1 then parS x else if x.k=2 then varS x else if x.k=3∨x.k=4 then arrS x else if x.k=5 then conS x else if x.k=6 then goalS x else ([],false)
def fitsS (s:List UInt8):Bool:=(splitR s).2.2==0
def showI (x:It):List UInt8×Int:=if ((itemS x).2&&fitsS (itemS x).1)=true then ((itemS x).1,0) else ([],2)
def showL (l:List It):List UInt8×Int:=
 if 512<l.length then ([],3)
 else if l.all (fun x=>(itemS x).2&&fitsS (itemS x).1)=true then
  (if fitsS (l.flatMap fun x=>(itemS x).1++[10])=true then (l.flatMap fun x=>(itemS x).1++[10],0) else ([],3))
 else ([],2)
def I64 (n:Int):Prop:= -9223372036854775808≤n∧n≤9223372036854775807
def aTrue:T3:=(1,wTrue,0)
def aFalse:T3:=(1,wFalse,0)
def plain0T (y:Ex0):T3:=if y.k=1 then (2,Lib.itoa y.n,y.n) else if y.k=2 then (if y.n=1 then aTrue else aFalse) else (1,y.s,0)
theorem plain0_ok {y:Ex0} (hn:I64 y.n) {t:List UInt8} (h:plain0S y=(t,true)):y.m=0∧Alone (plain0T y)∧(plain0T y).2.1=t∧∀r,plainP (bare (plain0T y)::r)= .ok ⟨y.k,y.n,y.s,[]⟩ r:=by
 obtain ⟨k,n,s,m⟩:=y;unfold plain0S at h;dsimp only at h hn;by_cases c0:0<m
 ·rw[if_pos c0]at h;cases h
 rw[if_neg c0]at h;refine ⟨by show m=0;omega,?_⟩;by_cases c1:k=1∧s=[]
 ·rw[if_pos c1]at h;obtain ⟨rfl,rfl⟩:=c1;injection h with h _;subst h;exact ⟨itoa_alone n hn.1 hn.2,rfl,fun r=>rfl⟩
 rw[if_neg c1]at h;by_cases c2:k=2∧s=[]∧n=1
 ·rw[if_pos c2]at h;obtain ⟨rfl,rfl,rfl⟩:=c2;injection h with h _;subst h;exact ⟨alone_word (by decide),rfl,fun r=>rfl⟩
 rw[if_neg c2]at h;by_cases c3:k=2∧s=[]∧n=0
 ·rw[if_pos c3]at h;obtain ⟨rfl,rfl,rfl⟩:=c3;injection h with h _;subst h;exact ⟨alone_word (by decide),rfl,fun r=>rfl⟩
 rw[if_neg c3]at h;by_cases c4:k=3∧n=0∧nameB s=true
 ·rw[if_pos c4]at h;obtain ⟨rfl,rfl,h5⟩:=c4;injection h with h _;subst h;obtain ⟨⟨ha,hw⟩,_⟩:=nameB_iff.1 h5;refine ⟨ha,rfl,fun r=> ?_⟩;show plainP (⟨1,s,0,0⟩::r)=_;have hk:kindP ((⟨1,s,0,0⟩:Tok)::r)=1:=by
   unfold kindP;simp[hw]
  unfold plainP;rw[hk,if_neg (by decide),if_pos rfl];rfl
 ·rw[if_neg c4]at h;cases h
end Go.Proofs.YtpfhgkielakmoaaGreatDoor
set_option linter.unusedSimpArgs false
set_option linter.unusedVariables false
namespace Go.Proofs.YtpfhgkielakmoaaGreatDoor
def inter {α:Type} (c:α):List (List α)→List α
 |[]=>[]
 |[x]=>x
 |x::y::r=>x++c::inter c (y::r)
def aComma:T3:=(3,[44],0)
theorem inter_map {α β:Type} (f:α→β) (c:α):∀(l:List (List α)),(inter c l).map f=inter (f c) (l.map (·.map f))
 |[]=>rfl
 |[x]=>rfl
 |x::y::r=>by
  show (x++c::inter c (y::r)).map f=_;rw[List.map_append,List.map_cons,inter_map f c (y::r)];rfl
theorem join_two (x y:List UInt8) (r:List (List UInt8)) (sep:List UInt8):Lib.join (x::y::r) sep=x++(sep++Lib.join (y::r) sep):=by
 rw[Lib.join_cons,Lib.join_cons];simp[Lib.joinTail]
def Stop1 (s:List UInt8):Prop:=∃c r,s=c::r∧(c=44∨c=41∨c=93∨c=59∨c=125)
theorem stop_glue {s:List UInt8} (h:Stop1 s) (x:T3):∀c r,s=c::r→glue x c:=by
 obtain ⟨d,q,rfl,h⟩:=h;intro c r e;injection e with e _;subst e;rcases h with rfl|rfl|rfl|rfl|rfl<;>exact ⟨fun _=>by decide,fun _=>by decide,fun _=>by decide⟩
def Spk (t:List UInt8) (ts:List T3):Prop:=∀s us,Stop1 s→Sp s us→Sp (t++s) (ts++us)
theorem Spk.one {x:T3} (h:Alone x):Spk x.2.1 [x]:=fun s us hs hu=>Sp.no h (stop_glue hs x) hu
theorem Spk.join:∀{l:List (List UInt8×List T3)},(∀g∈l,Spk g.1 g.2)→Spk (Lib.join (l.map (·.1)) [44,32]) (inter aComma (l.map (·.2)))
 |[],_=>fun s us hs hu=>hu
 |[g],h=>fun s us hs hu=>by
  show Sp (Lib.join [g.1] [44,32]++s) (g.2++us);rw[Lib.join_one];exact h g List.mem_cons_self s us hs hu
 |g::g'::r,h=>fun s us hs hu=>by
  have ih:=Spk.join (l:=g'::r) (fun x hx=>h x (List.mem_cons_of_mem _ hx)) s us hs hu;show Sp (Lib.join (g.1::g'.1::r.map (·.1)) [44,32]++s) ((g.2++aComma::inter aComma (g'.2::r.map (·.2)))++us);rw[join_two,List.append_assoc,List.append_assoc,List.append_assoc,List.cons_append];exact h g List.mem_cons_self _ _ ⟨44,_,rfl,Or.inl rfl⟩ (Sp.sp (x:=aComma) (alone_sign (by decide)) ih)
theorem Spk.list {t:List UInt8} {ts:List T3} (h:Spk t ts):Spk (91::(t++[93])) ((3,[91],0)::(ts++[(3,[93],0)])):=fun s us hs hu=>by
 have h1:Sp (93::s) ((3,[93],0)::us):=Sp.no (x:=(3,[93],0)) (alone_sign (by decide)) (stop_glue hs _) hu;have h2:=h (93::s) _ ⟨93,s,rfl,Or.inr (Or.inr (Or.inl rfl))⟩ h1;have h3:Sp (91::(t++93::s)) ((3,[91],0)::(ts++(3,[93],0)::us)):=Sp.no (x:=(3,[91],0)) (alone_sign (by decide)) (fun c r _=>⟨fun e=>absurd e (show (3:Int)≠1 by decide),fun e=>absurd e (show (3:Int)≠2 by decide),fun e=>absurd e (show ([91]:List UInt8)≠[58] by decide)⟩) h2;simpa using h3
theorem isP_cons (s:List UInt8) (t:Tok) (l:List Tok):isP s (t::l)=(t.t==s):=rfl
theorem may_yes {s:List UInt8} {t:Tok} {l:List Tok} (h:t.t=s):mayP s (t::l)= .ok true l:=by
 unfold mayP;rw[isP_cons,if_pos (by rw[h];simp)];rfl
theorem may_no {s:List UInt8} {t:Tok} {l:List Tok} (h:t.t≠s):mayP s (t::l)= .ok false (t::l):=by
 unfold mayP;rw[isP_cons,if_neg (by simpa using h)]
theorem take_yes {s:List UInt8} {t:Tok} {l:List Tok} (h:t.t=s):takeP s (t::l)= .ok () l:=by
 unfold takeP;rw[isP_cons,if_pos (by rw[h];simp)];rfl
theorem bind_of {α β:Type} {f:Pm α} {g:α→Pm β} {l r:List Tok} {x:α} (h:f l= .ok x r):pbind f g l=g x r:=by
 unfold pbind;rw[h]
theorem exprsGo_of {en:List UInt8} {one:Pm Ex} (hen:en≠[44]) {e:Tok} (he:e.t=en):∀(gs:List (List Tok×Ex)) (acc:List Ex) (k:Nat),gs≠[]→gs.length≤k→(∀g∈gs,∀r,one (g.1++r)= .ok g.2 r)→∀r,exprsGo en one k acc (inter (bare aComma) (gs.map (·.1))++e::r)= .ok (acc++gs.map (·.2)) r
 |[],_,_,h,_,_,_=>absurd rfl h
 |[g],acc,k,_,hk,hg,r=>by
  obtain ⟨j,rfl⟩:∃j,k=j+1:=⟨k-1,by simp at hk;omega⟩;show pbind one _ (g.1++e::r)=_;rw[bind_of (hg g List.mem_cons_self _),bind_of (may_yes he)];rfl
 |g::g'::q,acc,k,_,hk,hg,r=>by
  obtain ⟨j,rfl⟩:∃j,k=j+1:=⟨k-1,by simp at hk;omega⟩;have ih:=exprsGo_of hen he (g'::q) (acc++[g.2]) j (by simp) (by simp at hk⊢;omega) (fun x hx=>hg x (List.mem_cons_of_mem _ hx)) r;show pbind one _ ((g.1++bare aComma::inter (bare aComma) ((g'::q).map (·.1)))++e::r)=_;rw[List.append_assoc,bind_of (hg g List.mem_cons_self _),List.cons_append,bind_of (may_no (fun h=>hen h.symm))];rw[if_neg (by decide),bind_of (take_yes (s:=[44]) (t:=bare aComma) rfl),ih];simp
theorem exprs_of {en:List UInt8} {one:Pm Ex} (hen:en≠[44]) {e:Tok} (he:e.t=en) (gs:List (List Tok×Ex)) (hk:gs.length≤64) (hg:∀g∈gs,∀r,one (g.1++r)= .ok g.2 r) (hf:∀g∈gs,∃t q,g.1=t::q∧t.t≠en) (r:List Tok):exprsP en one (inter (bare aComma) (gs.map (·.1))++e::r)= .ok (gs.map (·.2)) r:=by
 unfold exprsP;cases gs with
 |nil=>
  show pbind (mayP en) _ (e::r)=_;rw[bind_of (may_yes he)];rfl
 |cons g q=>
  obtain ⟨t,u,h1,h2⟩:=hf g List.mem_cons_self;have hh:∃v,inter (bare aComma) ((g::q).map (·.1))++e::r=t::v:=by
   cases q with
   |nil=>exact ⟨u++e::r,by show g.1++_=_;rw[h1];rfl⟩
   |cons g' q=>exact ⟨_,by show (g.1++_)++_=_;rw[h1];rfl⟩
  obtain ⟨v,hv⟩:=hh;rw[hv,bind_of (may_no h2),←hv];exact exprsGo_of hen he (g::q) [] 64 (by simp) hk hg r
theorem alone_not {x:T3} (h:Alone x) (hk:x.1≠3) {c:UInt8} (hc:isSign c=true):x.2.1≠[c]:=by
 intro e;have h1:=h.1;rw[e]at h1;have h2:=(alone_sign hc).1;dsimp only at h2;rw[h2]at h1;injection h1 with h1 _;exact hk h1.symm
end Go.Proofs.YtpfhgkielakmoaaGreatDoor
set_option maxHeartbeats 4000000
set_option maxRecDepth 100000
set_option linter.unusedSimpArgs false
set_option linter.unusedVariables false
namespace Go.Proofs.YtpfhgkielakmoaaGreatDoor
open Go.RowKit
theorem rword_letter {s:ByteArray} {i:Nat} (w:World) (hs:s.size≤8192) (hi:i<s.size) (hl:isLetter s[i]=true):Calls Tryz.prog 34 #[.string s,.int .i64 i] w fun e w'=>e= .returned (.tuple #[.int .i64 1,.int .i64 (1+tw isWord s (i+1):Nat)])∧Read w w':=by
 have hn:=tw_le (p:=isWord) (s:=s) (i:=i+1) (by omega);generalize hN:1+tw isWord s (i+1)=N at*;have HN:=Lib.hid hN;have HL:=Lib.hid hl;clear hN hl;go_enter Tryz.func34,Tryz.ntmps34;go_wp2_with fail;refine (rletter_any _ _).mono ?_;rintro e w3 ⟨rfl,e3⟩;rw[HL.out,e3];go_wp2_with fail;go_loopg [7] (s.size-(i+1)) (fun k v wr=>∃j,k=s.size-(i+j)∧1≤j∧i+j≤s.size∧v= .int .i64 (j:Nat)∧Hid (j+tw isWord s (i+j)=N)∧Read w wr)
 case atStart=>exact ⟨1,rfl,Nat.le_refl _,hi,rfl,HN.out,(by first|exact Read.refl _|exact ⟨_,rfl⟩|exact Read.drewN ⟨_,rfl⟩ _|exact Read.drewN (Read.drewN ⟨_,rfl⟩ _) _|exact Read.drewN (Read.refl _) _)⟩
 case round=>
  obtain ⟨j,hk,hj1,hj,rfl,hT,hq⟩:=hrel;by_cases hlt:i+j<s.size
  ·have d1:decide ((i:Int)+(j:Int)<(s.size:Int))=true:=decide_eq_true (by omega);rcases Bool.eq_false_or_eq_true (isWord s[i+j]) with hp|hp
   ·have h1:j+1+tw isWord s (i+(j+1))=N:=by
     have h1:=tw_yes hlt hp;have h2:=hT.out;rw[←Nat.add_assoc];omega
    have H1:=Lib.hid h1;unfold isWord at hp;clear h1 hT;rcases Bool.eq_false_or_eq_true (isLetter s[i+j]) with hq1|hq1
    ·have HP:=Lib.hid hq1;clear hq1 hp;go_wp2_with fail;refine (rletter_any _ _).mono ?_;rintro e w3 ⟨rfl,rfl⟩;rw[HP.out];go_wp2_with fail;go_roundg (s.size-(i+(j+1)))
     case measure=>omega
     case rel=>exact ⟨j+1,rfl,by omega,by omega,by simp,H1,hq.trans (by first|exact Read.refl _|exact ⟨_,rfl⟩|exact Read.drewN ⟨_,rfl⟩ _|exact Read.drewN (Read.drewN ⟨_,rfl⟩ _) _|exact Read.drewN (Read.refl _) _)⟩
    ·rw[hq1,Bool.false_or]at hp;have HP:=Lib.hid hq1;have HP2:=Lib.hid hp;clear hq1 hp;go_wp2_with fail;refine (rletter_any _ _).mono ?_;rintro e w3 ⟨rfl,rfl⟩;rw[HP.out];go_wp2_with fail;refine (rdigit_any _ _).mono ?_;rintro e w3 ⟨rfl,rfl⟩;rw[HP2.out];go_wp2_with fail;go_roundg (s.size-(i+(j+1)))
     case measure=>omega
     case rel=>exact ⟨j+1,rfl,by omega,by omega,by simp,H1,hq.trans (by first|exact Read.refl _|exact ⟨_,rfl⟩|exact Read.drewN ⟨_,rfl⟩ _|exact Read.drewN (Read.drewN ⟨_,rfl⟩ _) _|exact Read.drewN (Read.refl _) _)⟩
   ·have h1:j=N:=by
     have h1:=tw_no hlt hp;have h2:=hT.out;omega
    unfold isWord at hp;rw[Bool.or_eq_false_iff]at hp;have HP:=Lib.hid hp.1;have HP2:=Lib.hid hp.2;clear hp hT;subst h1;go_wp2_with fail;refine (rletter_any _ _).mono ?_;rintro e w3 ⟨rfl,rfl⟩;rw[HP.out];go_wp2_with fail;refine (rdigit_any _ _).mono ?_;rintro e w3 ⟨rfl,rfl⟩;rw[HP2.out];go_wp2;exact bodyPost_ret (v:= .tuple #[.int .i64 1,.int .i64 (j:Nat)]) (by simp[results,Tryz.results34,go_sem]) rfl ⟨rfl,hq.trans (by first|exact Read.refl _|exact ⟨_,rfl⟩|exact Read.drewN ⟨_,rfl⟩ _|exact Read.drewN (Read.drewN ⟨_,rfl⟩ _) _|exact Read.drewN (Read.refl _) _)⟩
  ·have d1:decide ((i:Int)+(j:Int)<(s.size:Int))=false:=decide_eq_false (by omega);have h1:j=N:=by
    have h1:=tw_end (p:=isWord) hlt;have h2:=hT.out;omega
   clear hT;subst h1;go_wp2;exact bodyPost_ret (v:= .tuple #[.int .i64 1,.int .i64 (j:Nat)]) (by simp[results,Tryz.results34,go_sem]) rfl ⟨rfl,hq.trans (by first|exact Read.refl _|exact ⟨_,rfl⟩|exact Read.drewN ⟨_,rfl⟩ _|exact Read.drewN (Read.drewN ⟨_,rfl⟩ _) _|exact Read.drewN (Read.refl _) _)⟩
theorem sign_eq {c:UInt8} {n:Nat} (hn:c.toNat=n):isSign c=true↔n=58∨n=123∨n=125∨n=91∨n=93∨n=40∨n=41∨n=44∨n=59∨n=61:=by
 subst hn;have h:∀k:UInt8,c=k↔c.toNat=k.toNat:=fun k=>⟨fun h=>by rw[h],fun h=>UInt8.toNat_inj.1 h⟩;unfold isSign;simp only[Bool.or_eq_true,beq_iff_eq,h,or_assoc];rfl
theorem ext2_list {s:ByteArray} {i:Nat} (h:i+1<s.size):(s.extract i (i+2)).data.toList=[s[i],s[i+1]]:=by
 rw[take_ext,drop_at (by omega:i<s.size),drop_at h];rfl
theorem ext2_eq {s:ByteArray} {i:Nat} (a:UInt8) (h:i+1<s.size):(s.extract i (i+2)).toList=[a,a]↔s[i]=a∧(s.data.toList.drop (i+1)).head? =some a:=by
 rw[drop_at h,ByteArray.toList_eq,ext2_list h];simp
theorem head_digit {s:ByteArray} {i:Nat}:((s.data.toList.drop i).head?.map isDigit)=some true↔0<tw isDigit s i:=by
 unfold tw;cases s.data.toList.drop i with
 |nil=>simp
 |cons c r=>
  rw[List.takeWhile_cons];simp;split<;>simp_all
theorem rword_any {s:ByteArray} {i:Nat} (w:World) (hs:s.size≤8192) (hi:i<s.size):Calls Tryz.prog 34 #[.string s,.int .i64 i] w fun e w'=>e= .returned (.tuple #[.int .i64 (wordL (s.data.toList.drop i)).1,.int .i64 ((wordL (s.data.toList.drop i)).2:Nat)])∧Read w w':=by
 have hd:=drop_at hi;rcases Bool.eq_false_or_eq_true (isLetter s[i]) with c1|c1
 ·have hw:wordL (s.data.toList.drop i)=(1,1+tw isWord s (i+1)):=by
   rw[hd];unfold wordL;simp only;rw[if_pos c1];rfl
  rw[hw];exact rword_letter w hs hi c1
 have C1:=Lib.hid c1;rcases Bool.eq_false_or_eq_true (isDigit s[i]) with c2|c2
 ·have hw:wordL (s.data.toList.drop i)=(2,tw isDigit s i):=by
   have h1:=tw_yes hi c2;rw[hd];unfold wordL;simp only;rw[if_neg (by simp[c1]),if_pos c2,h1,Nat.add_comm];rfl
  have C2:=Lib.hid c2;have HW:=Lib.hid hw;clear hw hd c1 c2;go_enter Tryz.func34,Tryz.ntmps34;go_wp2_with fail;refine (rletter_any _ _).mono ?_;rintro e w3 ⟨rfl,e3⟩;rw[C1.out,e3];go_wp2_with fail;refine (rdigit_any _ _).mono ?_;rintro e w3 ⟨rfl,e3⟩;rw[C2.out,e3];go_wp2_with fail;refine (rdigits_any _ hs (Nat.le_of_lt hi)).mono ?_;rintro e w4 ⟨rfl,q⟩;go_wp2;rw[HW.out];exact bodyPost_ret (v:= .tuple #[.int .i64 2,.int .i64 (tw isDigit s i:Nat)]) (by simp[results,Tryz.results34,go_sem]) rfl ⟨rfl,q⟩
 have C2:=Lib.hid c2;by_cases c3:s[i]=45∧((s.data.toList.drop (i+1)).head?.map isDigit)=some true
 ·have hw:wordL (s.data.toList.drop i)=(2,1+tw isDigit s (i+1)):=by
   rw[hd];unfold wordL;simp only;rw[if_neg (by simp[c1]),if_neg (by simp[c2]),if_pos c3];rfl
  have b1:((s[i].toNat:Int)==45)=true:=by rw[c3.1];rfl
  have h0:=head_digit.1 c3.2;have hle:=tw_le (p:=isDigit) (s:=s) (i:=i+1) (by omega);have b2:decide ((0:Int)<(tw isDigit s (i+1):Nat))=true:=decide_eq_true (by omega);have HW:=Lib.hid hw;clear hw hd c1 c2 c3 b2;go_enter Tryz.func34,Tryz.ntmps34;go_wp2_with fail;refine (rletter_any _ _).mono ?_;rintro e w3 ⟨rfl,e3⟩;rw[C1.out,e3];go_wp2_with fail;refine (rdigit_any _ _).mono ?_;rintro e w3 ⟨rfl,e3⟩;rw[C2.out,e3];go_wp2_with fail;refine (rdigits_any (i:=i+1) _ hs hi).mono ?_;rintro e w4 ⟨rfl,q⟩;go_wp2_with fail;refine (rdigits_any (i:=i+1) _ hs hi).mono ?_;rintro e w5 ⟨rfl,q2⟩;go_wp2;rw[HW.out];exact bodyPost_ret (v:= .tuple #[.int .i64 2,.int .i64 (1+tw isDigit s (i+1):Nat)]) (by simp[results,Tryz.results34,go_sem]) rfl ⟨rfl,q.trans q2⟩
 have hw0:∀x:Int×Nat,(if isLetter s[i]=true then ((1:Int),1+((s.data.toList.drop (i+1)).takeWhile isWord).length) else if isDigit s[i]=true then (2,1+((s.data.toList.drop (i+1)).takeWhile isDigit).length) else if s[i]=45∧((s.data.toList.drop (i+1)).head?.map isDigit)=some true then (2,1+((s.data.toList.drop (i+1)).takeWhile isDigit).length) else x)=x:=fun x=>by rw[if_neg (by simp[c1]),if_neg (by simp[c2]),if_neg c3]
 by_cases h2:(s[i]=58∧(s.data.toList.drop (i+1)).head? =some 58)∨(s[i]=46∧(s.data.toList.drop (i+1)).head? =some 46)
 ·have hw:wordL (s.data.toList.drop i)=(3,2):=by
   rw[hd];unfold wordL;simp only;rw[hw0,if_pos h2]
  have hlt:i+1<s.size:=by
   by_cases h:i+1<s.size
   ·exact h
   ·rw[List.drop_eq_nil_of_le (by simp;omega)]at h2;simp at h2
  have b1:((s[i].toNat:Int)==45)=false:=by
   rcases h2 with ⟨h,_⟩|⟨h,_⟩<;>rw[h]<;>rfl
  have d1:decide ((i:Int)+1<(s.size:Int))=true:=decide_eq_true (by omega);have x1:=ext2_eq 58 hlt;have x2:=ext2_eq 46 hlt;have HW:=Lib.hid hw;rcases h2 with h2|h2
  ·have x1:=x1.2 h2;clear hw hd c1 c2 c3 hw0 h2 x2;go_enter Tryz.func34,Tryz.ntmps34;go_wp2_with fail;refine (rletter_any _ _).mono ?_;rintro e w3 ⟨rfl,e3⟩;rw[C1.out,e3];go_wp2_with fail;refine (rdigit_any _ _).mono ?_;rintro e w3 ⟨rfl,e3⟩;rw[C2.out,e3];go_wp2;rw[HW.out];exact bodyPost_ret (v:= .tuple #[.int .i64 3,.int .i64 2]) (by simp[results,Tryz.results34,go_sem]) rfl ⟨rfl,(by first|exact Read.refl _|exact ⟨_,rfl⟩|exact Read.drewN ⟨_,rfl⟩ _|exact Read.drewN (Read.drewN ⟨_,rfl⟩ _) _|exact Read.drewN (Read.refl _) _)⟩
  ·have x2:=x2.2 h2;have x1:¬(s.extract i (i+2)).toList=[58,58]:=fun e=>by rw[x2]at e;cases e
   clear hw hd c1 c2 c3 hw0 h2;go_enter Tryz.func34,Tryz.ntmps34;go_wp2_with fail;refine (rletter_any _ _).mono ?_;rintro e w3 ⟨rfl,e3⟩;rw[C1.out,e3];go_wp2_with fail;refine (rdigit_any _ _).mono ?_;rintro e w3 ⟨rfl,e3⟩;rw[C2.out,e3];go_wp2;rw[HW.out];exact bodyPost_ret (v:= .tuple #[.int .i64 3,.int .i64 2]) (by simp[results,Tryz.results34,go_sem]) rfl ⟨rfl,(by first|exact Read.refl _|exact ⟨_,rfl⟩|exact Read.drewN ⟨_,rfl⟩ _|exact Read.drewN (Read.drewN ⟨_,rfl⟩ _) _|exact Read.drewN (Read.refl _) _)⟩
 have hw:wordL (s.data.toList.drop i)=if isSign s[i]=true then (3,1) else (0,0):=by
  rw[hd];unfold wordL;simp only;rw[hw0,if_neg h2]
 have HW:=Lib.hid hw;have hx1:i+1<s.size→¬(s.extract i (i+2)).toList=[58,58]:=fun h e=>h2 (.inl ((ext2_eq 58 h).1 e));have hx2:i+1<s.size→¬(s.extract i (i+2)).toList=[46,46]:=fun h e=>h2 (.inr ((ext2_eq 46 h).1 e));have hdg:s[i]=45→¬0<tw isDigit s (i+1):=fun e h=>c3 ⟨e,head_digit.2 h⟩;have HG:=Lib.hid (sign_eq (c:=s[i]) rfl);clear hw hd c1 c2 c3 hw0 h2;by_cases h45:s[i]=45
 ·have b1:((s[i].toNat:Int)==45)=true:=by rw[h45];rfl
  have h0:=hdg h45;have hg:¬isSign s[i]=true:=by rw[h45];decide
  rw[HW.out,if_neg hg];clear hdg h45 hg HW HG;by_cases hlt:i+1<s.size
  ·have d1:decide ((i:Int)+1<(s.size:Int))=true:=decide_eq_true (by omega);have x1:=hx1 hlt;have x2:=hx2 hlt;have y1:((s.extract i (i+2)).toList==[58,58])=false:=by simpa using x1
   have y2:((s.extract i (i+2)).toList==[46,46])=false:=by simpa using x2
   have y3:¬(((s.extract i (i+2)).toList==[58,58])=true∨((s.extract i (i+2)).toList==[46,46])=true):=by rw[y1,y2];simp
   clear hx1 hx2;go_enter Tryz.func34,Tryz.ntmps34;go_wp2_with fail;refine (rletter_any _ _).mono ?_;rintro e w3 ⟨rfl,e3⟩;rw[C1.out,e3];go_wp2_with fail;refine (rdigit_any _ _).mono ?_;rintro e w3 ⟨rfl,e3⟩;rw[C2.out,e3];go_wp2_with fail;refine (rdigits_any (i:=i+1) _ hs hi).mono ?_;rintro e w4 ⟨rfl,q⟩;go_wp2;exact bodyPost_ret (v:= .tuple #[.int .i64 0,.int .i64 0]) (by simp[results,Tryz.results34,go_sem]) rfl ⟨rfl,q.trans (by first|exact Read.refl _|exact ⟨_,rfl⟩|exact Read.drewN ⟨_,rfl⟩ _|exact Read.drewN (Read.drewN ⟨_,rfl⟩ _) _|exact Read.drewN (Read.refl _) _)⟩
  ·have d1:decide ((i:Int)+1<(s.size:Int))=false:=decide_eq_false (by omega);clear hx1 hx2;go_enter Tryz.func34,Tryz.ntmps34;go_wp2_with fail;refine (rletter_any _ _).mono ?_;rintro e w3 ⟨rfl,e3⟩;rw[C1.out,e3];go_wp2_with fail;refine (rdigit_any _ _).mono ?_;rintro e w3 ⟨rfl,e3⟩;rw[C2.out,e3];go_wp2_with fail;refine (rdigits_any (i:=i+1) _ hs hi).mono ?_;rintro e w4 ⟨rfl,q⟩;go_wp2;exact bodyPost_ret (v:= .tuple #[.int .i64 0,.int .i64 0]) (by simp[results,Tryz.results34,go_sem]) rfl ⟨rfl,q.trans (by first|exact Read.refl _|exact ⟨_,rfl⟩|exact Read.drewN ⟨_,rfl⟩ _|exact Read.drewN (Read.drewN ⟨_,rfl⟩ _) _|exact Read.drewN (Read.refl _) _)⟩
 ·have b1:((s[i].toNat:Int)==45)=false:=by
   have:s[i].toNat≠45:=fun e=>h45 (UInt8.toNat_inj.1 e);simp;omega
  clear hdg h45;by_cases hlt:i+1<s.size
  ·have d1:decide ((i:Int)+1<(s.size:Int))=true:=decide_eq_true (by omega);have x1:=hx1 hlt;have x2:=hx2 hlt;have y1:((s.extract i (i+2)).toList==[58,58])=false:=by simpa using x1
   have y2:((s.extract i (i+2)).toList==[46,46])=false:=by simpa using x2
   have y3:¬(((s.extract i (i+2)).toList==[58,58])=true∨((s.extract i (i+2)).toList==[46,46])=true):=by rw[y1,y2];simp
   clear hx1 hx2;go_enter Tryz.func34,Tryz.ntmps34;go_wp2_with fail;refine (rletter_any _ _).mono ?_;rintro e w3 ⟨rfl,e3⟩;rw[C1.out,e3];go_wp2_with fail;refine (rdigit_any _ _).mono ?_;rintro e w3 ⟨rfl,e3⟩;rw[C2.out,e3];go_wp2;all_goals
    rw[HW.out];have hg:=HG.out;simp only[beq_iff_eq,beq_eq_false_iff_ne,ne_eq]at*;first
     |(rw[if_pos (hg.2 (by omega))];exact bodyPost_ret (v:= .tuple #[.int .i64 3,.int .i64 1]) (by simp[results,Tryz.results34,go_sem]) rfl ⟨rfl,(by first|exact Read.refl _|exact ⟨_,rfl⟩|exact Read.drewN ⟨_,rfl⟩ _|exact Read.drewN (Read.drewN ⟨_,rfl⟩ _) _|exact Read.drewN (Read.refl _) _)⟩)
     |(rw[if_neg (fun e=>by have:=hg.1 e;omega)];exact bodyPost_ret (v:= .tuple #[.int .i64 0,.int .i64 0]) (by simp[results,Tryz.results34,go_sem]) rfl ⟨rfl,(by first|exact Read.refl _|exact ⟨_,rfl⟩|exact Read.drewN ⟨_,rfl⟩ _|exact Read.drewN (Read.drewN ⟨_,rfl⟩ _) _|exact Read.drewN (Read.refl _) _)⟩)
  ·have d1:decide ((i:Int)+1<(s.size:Int))=false:=decide_eq_false (by omega);clear hx1 hx2;go_enter Tryz.func34,Tryz.ntmps34;go_wp2_with fail;refine (rletter_any _ _).mono ?_;rintro e w3 ⟨rfl,e3⟩;rw[C1.out,e3];go_wp2_with fail;refine (rdigit_any _ _).mono ?_;rintro e w3 ⟨rfl,e3⟩;rw[C2.out,e3];go_wp2;all_goals
    rw[HW.out];have hg:=HG.out;simp only[beq_iff_eq,beq_eq_false_iff_ne,ne_eq]at*;first
     |(rw[if_pos (hg.2 (by omega))];exact bodyPost_ret (v:= .tuple #[.int .i64 3,.int .i64 1]) (by simp[results,Tryz.results34,go_sem]) rfl ⟨rfl,(by first|exact Read.refl _|exact ⟨_,rfl⟩|exact Read.drewN ⟨_,rfl⟩ _|exact Read.drewN (Read.drewN ⟨_,rfl⟩ _) _|exact Read.drewN (Read.refl _) _)⟩)
     |(rw[if_neg (fun e=>by have:=hg.1 e;omega)];exact bodyPost_ret (v:= .tuple #[.int .i64 0,.int .i64 0]) (by simp[results,Tryz.results34,go_sem]) rfl ⟨rfl,(by first|exact Read.refl _|exact ⟨_,rfl⟩|exact Read.drewN ⟨_,rfl⟩ _|exact Read.drewN (Read.drewN ⟨_,rfl⟩ _) _|exact Read.drewN (Read.refl _) _)⟩)
end Go.Proofs.YtpfhgkielakmoaaGreatDoor

/-
  Joined texts: Pu, Ve, Vf.
-/
import Derived.Test.YtpfhgkielakmoaaGreatDoorPt
import Derived.Test.YtpfhgkielakmoaaGreatDoorPd
import Derived.Test.YtpfhgkielakmoaaGreatDoorTh
set_option linter.unusedSimpArgs false
set_option linter.unusedVariables false
namespace Go.Proofs.YtpfhgkielakmoaaGreatDoor
def Gives {α:Type} (f:Pm α) (p:α→Prop):Prop:=∀l x r,f l= .ok x r→p x
theorem gives_ret {α:Type} {p:α→Prop} {x:α} (h:p x):Gives (pret x) p:=fun l y r e=>by
 unfold pret at e;injection e with e _;rw[←e];exact h
theorem gives_bind {α β:Type} {f:Pm α} {g:α→Pm β} {p:α→Prop} {q:β→Prop} (hf:Gives f p) (hg:∀x,p x→Gives (g x) q):Gives (pbind f g) q:=fun l y r e=>by
 obtain ⟨x,s,h1,h2⟩:=bind_ok e;exact hg x (hf l x s h1) s y r h2
theorem gives_any {α:Type} (f:Pm α):Gives f (fun _=>True):=fun _ _ _ _=>trivial
theorem gives_then {α β:Type} {f:Pm α} {g:α→Pm β} {q:β→Prop} (hg:∀x,Gives (g x) q):Gives (pbind f g) q:=gives_bind (gives_any f) fun x _=>hg x
theorem gives_wrong {α:Type} {p:α→Prop}:Gives (wrongP:Pm α) p:=fun l x r e=>by cases e
theorem gives_if {α:Type} {b:Prop} [Decidable b] {f g:Pm α} {p:α→Prop} (hf:Gives f p) (hg:Gives g p):Gives (if b then f else g) p:=by
 by_cases h:b
 ·rw[if_pos h];exact hf
 ·rw[if_neg h];exact hg
theorem gives_plain:Gives plainP (fun x=>x.l=[]):=fun l x r e=>by
 unfold plainP at e;split at e
 ·injection e with e _;rw[←e]
 ·split at e
  ·injection e with e _;rw[←e]
  ·split at e
   ·injection e with e _;rw[←e]
   ·split at e
    ·injection e with e _;rw[←e]
    ·cases e
theorem gives_exprsGo {en:List UInt8} {one:Pm Ex} {q:Ex→Prop} (h1:Gives one q):∀(k:Nat) (acc:List Ex),acc.length+k≤64→(∀x∈acc,q x)→Gives (exprsGo en one k acc) (fun xs=>xs.length≤64∧∀x∈xs,q x)
 |0,acc,_,_=>fun l x r e=>by cases e
 |k+1,acc,hk,ha=>by
  refine gives_bind h1 fun x hx=>gives_then fun b=> ?_;have h2:∀y∈acc++[x],q y:=fun y hy=>by
   rcases List.mem_append.1 hy with hy|hy
   ·exact ha y hy
   ·rw[List.mem_singleton.1 hy];exact hx
  have h3:(acc++[x]).length+k≤64:=by rw[List.length_append,List.length_singleton];omega
  exact gives_if (gives_ret ⟨by omega,h2⟩) (gives_then fun _=>gives_exprsGo h1 k _ h3 h2)
theorem gives_exprs {en:List UInt8} {one:Pm Ex} {q:Ex→Prop} (h1:Gives one q):Gives (exprsP en one) (fun xs=>xs.length≤64∧∀x∈xs,q x):=
 gives_then fun b=>gives_if (gives_ret ⟨Nat.zero_le _,fun _ h=>absurd h List.not_mem_nil⟩) (gives_exprsGo h1 64 [] (Nat.le_refl _) fun _ h=>absurd h List.not_mem_nil)
def LowE (x:Ex):Prop:=x.l.length≤64∧∀y∈x.l,y.m=0
theorem lowE_nil {x:Ex} (h:x.l=[]):LowE x:=by
 unfold LowE;rw[h];exact ⟨Nat.zero_le _,fun _ h=>absurd h List.not_mem_nil⟩
theorem gives_expr:Gives exprP LowE:=by
 refine gives_then fun b=>gives_if (gives_bind (gives_exprs gives_plain) fun xs hx=>gives_ret ⟨by simpa using hx.1,fun y hy=> ?_⟩) (fun l x r e=>lowE_nil (gives_plain l x r e));obtain ⟨z,hz,rfl⟩:=List.mem_map.1 hy;show z.l.length=0;rw[hx.2 z hz];rfl
theorem gives_domGo:∀(k:Nat) (acc:List (Int×Int)),acc.length+k≤256→Gives (domGo k acc) (fun d=>d.length≤256)
 |0,acc,_=>fun l x r e=>by cases e
 |k+1,acc,hk=>gives_then fun n=>gives_then fun b=>by
  have h3:(acc++[(n,n)]).length+k≤256:=by rw[List.length_append,List.length_singleton];omega
  exact gives_if (gives_ret (by show (acc++[(n,n)]).length≤256;omega)) (gives_then fun _=>gives_domGo k _ h3)
theorem gives_dom:Gives domP (fun d=>d.2.length≤256):=
 gives_then fun b=>gives_if (gives_ret (Nat.zero_le _)) (gives_then fun b=>gives_if (gives_bind (gives_domGo 256 [] (Nat.le_refl _)) fun d hd=>gives_ret hd) (gives_then fun lo=>gives_then fun _=>gives_then fun hi=>gives_ret (by show 1≤256;omega)))
def LowI (x:It):Prop:=x.dom.length≤256∧x.vals.length≤64∧∀y∈x.vals,LowE y
theorem lowI_one {x:Ex} (h:x.l=[]):([x]:List Ex).length≤64∧∀y∈[x],LowE y:=⟨by show 1≤64;omega,fun y hy=>by rw[List.mem_singleton.1 hy];exact lowE_nil h⟩
theorem lowI_nil:([]:List Ex).length≤64∧∀y∈([]:List Ex),LowE y:=⟨Nat.zero_le _,fun _ h=>absurd h List.not_mem_nil⟩
theorem gives_variable:Gives variableP LowI:=
 gives_bind gives_dom fun d hd=>gives_then fun _=>gives_then fun nm=>gives_then fun o=>gives_then fun _=>gives_then fun v=>gives_if (gives_bind gives_plain fun x hx=>gives_ret ⟨hd,lowI_one hx⟩) (gives_ret ⟨hd,lowI_nil⟩)
theorem gives_plains {en:List UInt8}:Gives (exprsP en plainP) (fun xs=>xs.length≤64∧∀x∈xs,LowE x):=fun l x r e=>by
 obtain ⟨h1,h2⟩:=gives_exprs gives_plain l x r e;exact ⟨h1,fun y hy=>lowE_nil (h2 y hy)⟩
theorem gives_array:Gives arrayP LowI:=
 gives_then fun _=>gives_then fun _=>gives_then fun _=>gives_then fun n=>gives_then fun _=>gives_then fun v=>gives_then fun b=>gives_then fun _=>gives_then fun nm=>gives_then fun o=>gives_then fun _=>gives_then fun _=>gives_bind gives_plains fun xs hx=>gives_ret ⟨Nat.zero_le _,hx⟩
theorem gives_par:Gives parP LowI:=
 gives_then fun b=>gives_then fun _=>gives_then fun nm=>gives_then fun _=>fun l x r e=>by
  split at e
  ·exact gives_bind gives_plain (fun y hy=>gives_ret (p:=LowI) (x:=⟨1,nm,b,[],0,false,[y],0⟩) ⟨Nat.zero_le _,lowI_one hy⟩) l x r e
  ·cases e
theorem gives_goal:Gives goalP LowI:=
 gives_then fun _=>gives_if (gives_ret ⟨Nat.zero_le _,lowI_nil⟩) (gives_then fun _=>gives_if (gives_then fun nm=>gives_ret ⟨Nat.zero_le _,lowI_nil⟩) (gives_then fun _=>gives_if (gives_then fun nm=>gives_ret ⟨Nat.zero_le _,lowI_nil⟩) gives_wrong))
theorem gives_item:Gives itemP LowI:=fun l x r e=>by
 unfold itemP at e;split at e
 ·exact gives_par l x r e
 ·exact (gives_then fun _=>gives_if gives_variable (gives_then fun _=>gives_if gives_array (gives_then fun _=>gives_if (gives_then fun nm=>gives_then fun _=>gives_bind (gives_exprs gives_expr) fun xs hx=>gives_ret ⟨Nat.zero_le _,hx⟩) (gives_then fun _=>gives_if gives_goal gives_wrong)))) l x r e
theorem gives_all:∀(k:Nat) (acc:List It),(∀x∈acc,LowI x)→Gives (allGo k acc) (fun xs=>∀x∈xs,LowI x)
 |k,acc,ha=>fun l xs r e=>by
  cases l with
  |nil=>
   rw[allGo_nil]at e;injection e with e _;rw[←e];exact ha
  |cons t l=>
   cases k with
   |zero=>cases e
   |succ k=>
    rw[allGo_cons]at e;obtain ⟨x,s,h1,h2⟩:=bind_ok e;obtain ⟨u,s2,h3,h4⟩:=bind_ok h2;refine gives_all k (acc++[x]) (fun y hy=> ?_) s2 xs r h4;rcases List.mem_append.1 hy with hy|hy
    ·exact ha y hy
    ·rw[List.mem_singleton.1 hy];exact gives_item _ _ _ h1
theorem textP_low (s:List UInt8):∀x∈(textP s).1,LowI x:=by
 by_cases h:(splitR s).2.2=0
 ·rw[textP_ok h];cases ha:allGo 512 [] (splitR s).1 with
  |ok x r=>exact gives_all 512 [] (fun _ h=>absurd h List.not_mem_nil) _ _ _ ha
  |bad e r=>exact fun _ h=>absurd h List.not_mem_nil
 ·rw[textP_bad h];exact fun _ h=>absurd h List.not_mem_nil
theorem textP_len (s:List UInt8):(textP s).1.length≤512:=by
 by_cases h:(textP s).2.2=0
 ·exact ((text_places s).2 h).2.2.2
 ·rw[((text_places s).1 h).2.2.1];exact Nat.zero_le _
theorem LowE.flat {x:Ex} (h:LowE x):x.flat=x:=by
 obtain ⟨k,n,s,l⟩:=x;show Ex.mk k n s (l.map Ex0.flat)=_;congr 1;have h2:∀y∈l,Ex0.flat y=y:=fun y hy=>by
  obtain ⟨a,b,c,m⟩:=y;have:m=0:=h.2 _ hy;subst this;rfl
 rw[List.map_congr_left h2,List.map_id']
theorem LowI.flat {x:It} (h:LowI x):x.flat=x:=by
 obtain ⟨k,nm,b,d,z,o,v,a⟩:=x;show It.mk k nm b d z o (v.map Ex.flat) a=_;congr 1;rw[List.map_congr_left fun y hy=>(h.2.2 y hy).flat,List.map_id']
theorem ex0sB_refl:∀{l:List Ex0},(∀y∈l,y.m=0)→ex0sB l l=true
 |[],_=>rfl
 |y::l,h=>by
  show (ex0B y y&&ex0sB l l)=true;rw[ex0sB_refl fun z hz=>h z (List.mem_cons_of_mem _ hz),Bool.and_true];simp[ex0B,h y List.mem_cons_self]
theorem exsB_refl:∀{l:List Ex},(∀x∈l,LowE x)→exsB l l=true
 |[],_=>rfl
 |x::l,h=>by
  show (exB x x&&exsB l l)=true;rw[exsB_refl fun z hz=>h z (List.mem_cons_of_mem _ hz),Bool.and_true];simp[exB,ex0sB_refl (h x List.mem_cons_self).2]
theorem domB_refl:∀(l:List (Int×Int)),domB l l=true
 |[]=>rfl
 |x::l=>by
  show ((x.1==x.1&&x.2==x.2)&&domB l l)=true;rw[domB_refl l];simp
theorem itsB_refl:∀{l:List It},(∀x∈l,LowI x)→itsB l l=true
 |[],_=>rfl
 |x::l,h=>by
  show (itB x x&&itsB l l)=true;rw[itsB_refl fun z hz=>h z (List.mem_cons_of_mem _ hz),Bool.and_true];simp[itB,exsB_refl (h x List.mem_cons_self).2.2,domB_refl]
theorem LowI.few {l:List It} (h:∀x∈l,LowI x):∀x∈l,x.vals.length≤10000∧∀y∈x.vals,y.l.length≤10000:=fun x hx=>⟨by have:=(h x hx).2.1;omega,fun y hy=>by have:=((h x hx).2.2 y hy).1;omega⟩
theorem LowI.few3 {l:List It} (h:∀x∈l,LowI x):∀x∈l,x.dom.length≤10000∧x.vals.length≤10000∧∀y∈x.vals,y.l.length≤10000:=fun x hx=>⟨by have:=(h x hx).1;omega,by have:=(h x hx).2.1;omega,fun y hy=>by have:=((h x hx).2.2 y hy).1;omega⟩
end Go.Proofs.YtpfhgkielakmoaaGreatDoor
set_option linter.unusedSimpArgs false
set_option linter.unusedVariables false
namespace Go.Proofs.YtpfhgkielakmoaaGreatDoor
theorem joinS_ok {ps:List TX} {t:List UInt8} (h:joinS ps=(t,true)):ps.length≤64∧(∀p∈ps,p.2=true)∧t=Lib.join (ps.map (·.1)) [44,32]:=by
 unfold joinS at h;by_cases h1:64<ps.length
 ·rw[if_pos h1]at h;cases h
 ·rw[if_neg h1]at h;by_cases h2:ps.all (·.2)=true
  ·rw[if_pos h2]at h;injection h with h _;exact ⟨by omega,fun p hp=>List.all_eq_true.1 h2 p hp,h.symm⟩
  ·rw[if_neg h2]at h;cases h
theorem tx_eq {p:TX} (h:p.2=true):p=(p.1,true):=by rw[←h]
def RngE (x:Ex):Prop:=I64 x.n∧∀y∈x.l,I64 y.n
def RngI (x:It):Prop:=I64 x.size∧(∀r∈x.dom,I64 r.1∧I64 r.2)∧∀y∈x.vals,RngE y
def plainT (x:Ex):List T3:=[plain0T x.low]
theorem plain0T_kind (y:Ex0):(plain0T y).1≠3:=by
 unfold plain0T aTrue aFalse;split
 ·show (2:Int)≠3;decide
 ·split
  ·split
   ·show (1:Int)≠3;decide
   ·show (1:Int)≠3;decide
  ·show (1:Int)≠3;decide
theorem plain_ok {x:Ex} (hn:I64 x.n) (h:(plainS x).2=true):x.l=[]∧Spk (plainS x).1 (plainT x)∧(∃t,(plainT x).map bare=[t]∧(∀c,isSign c=true→t.t≠[c]))∧∀r,plainP ((plainT x).map bare++r)= .ok x r:=by
 obtain ⟨h1,h2,h3,h4⟩:=plain0_ok (y:=x.low) hn (tx_eq h);have hl:x.l=[]:=List.length_eq_zero_iff.1 h1;refine ⟨hl,?_,⟨bare (plain0T x.low),rfl,fun c hc=>alone_not h2 (plain0T_kind _) hc⟩,fun r=> ?_⟩
 ·have:=Spk.one h2;rw[h3]at this;exact this
 ·rw[show (plainT x).map bare++r=bare (plain0T x.low)::r from rfl,h4 r];obtain ⟨k,n,s,l⟩:=x;dsimp only at hl;subst hl;rfl
theorem plains_ok {xs:List Ex} (hn:∀x∈xs,I64 x.n) (h:(joinS (xs.map plainS)).2=true):xs.length≤64∧(∀x∈xs,x.l=[])∧Spk (joinS (xs.map plainS)).1 (inter aComma (xs.map plainT))∧∀(e:Tok) (c:UInt8) (r:List Tok),isSign c=true→c≠44→e.t=[c]→exprsP [c] plainP ((inter aComma (xs.map plainT)).map bare++e::r)= .ok xs r:=by
 obtain ⟨h1,h2,h3⟩:=joinS_ok (tx_eq h);rw[List.length_map]at h1;have hx:∀x∈xs,(plainS x).2=true:=fun x hx=>h2 _ (List.mem_map.2 ⟨x,hx,rfl⟩);refine ⟨h1,fun x hx1=>(plain_ok (hn x hx1) (hx x hx1)).1,?_,fun e c r hc h44 he=> ?_⟩
 ·rw[h3];have:=Spk.join (l:=xs.map fun x=>((plainS x).1,plainT x)) (fun g hg=>by
   obtain ⟨x,hx1,rfl⟩:=List.mem_map.1 hg;exact (plain_ok (hn x hx1) (hx x hx1)).2.1)
  simpa[List.map_map,Function.comp_def]using this
 ·have:=exprs_of (en:=[c]) (one:=plainP) (by simpa using h44) he (xs.map fun x=>((plainT x).map bare,x)) (by simpa using h1) (fun g hg r=>by
   obtain ⟨x,hx1,rfl⟩:=List.mem_map.1 hg;exact (plain_ok (hn x hx1) (hx x hx1)).2.2.2 r) (fun g hg=>by
   obtain ⟨x,hx1,rfl⟩:=List.mem_map.1 hg;obtain ⟨t,ht,hs⟩:=(plain_ok (hn x hx1) (hx x hx1)).2.2.1;exact ⟨t,[],ht,hs c hc⟩) r
  rw[inter_map];simpa[List.map_map,Function.comp_def]using this
def aOpen:T3:=(3,[91],0)
def aShut:T3:=(3,[93],0)
def exprT (x:Ex):List T3:=if x.k≠4 then plainT x else aOpen::(inter aComma (x.l.map fun y=>[plain0T y])++[aShut])
def up (y:Ex0):Ex:=⟨y.k,y.n,y.s,[]⟩
theorem expr_ok {x:Ex} (hr:RngE x) (h:(exprS x).2=true):LowE x∧Spk (exprS x).1 (exprT x)∧(∃t q,(exprT x).map bare=t::q∧t.t≠[41])∧∀r,exprP ((exprT x).map bare++r)= .ok x r:=by
 unfold exprS at h⊢;unfold exprT;by_cases hk:x.k≠4
 ·rw[if_pos hk]at h⊢;rw[if_pos hk];obtain ⟨h1,h2,⟨t,h3,h4⟩,h5⟩:=plain_ok hr.1 h;refine ⟨lowE_nil h1,h2,⟨t,[],h3,h4 41 (by decide)⟩,fun r=> ?_⟩;rw[h3]at h5⊢;unfold exprP;show pbind (mayP [91]) _ (t::r)=_;rw[bind_of (may_no (h4 91 (by decide)))];exact h5 r
 ·rw[if_neg hk]at h⊢;rw[if_neg hk];rw[Bool.and_eq_true,Bool.and_eq_true]at h;obtain ⟨h1,h2,h3⟩:=h;have hk4:x.k=4:=by omega
  have hn0:x.n=0:=by simpa using h2
  have hs0:x.s=[]:=by simpa using h3
  obtain ⟨j1,j2,j3⟩:=joinS_ok (tx_eq h1);rw[List.length_map]at j1;have hy:∀y∈x.l,(plain0S y).2=true:=fun y hy=>j2 _ (List.mem_map.2 ⟨y,hy,rfl⟩);have ho:∀y∈x.l,_:=fun y hy1=>plain0_ok (hr.2 y hy1) (tx_eq (hy y hy1));refine ⟨⟨j1,fun y hy1=>(ho y hy1).1⟩,?_,⟨bare aOpen,_,rfl,by decide⟩,fun r=> ?_⟩
  ·have:=Spk.join (l:=x.l.map fun y=>((plain0S y).1,[plain0T y])) (fun g hg=>by
    obtain ⟨y,hy1,rfl⟩:=List.mem_map.1 hg;have h5:=Spk.one (ho y hy1).2.1;rw[(ho y hy1).2.2.1]at h5;exact h5)
   rw[j3];have h6:=Spk.list this;simpa[List.map_map,Function.comp_def,aOpen,aShut]using h6
  ·have:=exprs_of (en:=[93]) (one:=plainP) (by decide) (e:=bare aShut) rfl (x.l.map fun y=>([bare (plain0T y)],up y)) (by simpa using j1) (fun g hg r=>by
    obtain ⟨y,hy1,rfl⟩:=List.mem_map.1 hg;exact (ho y hy1).2.2.2 r) (fun g hg=>by
    obtain ⟨y,hy1,rfl⟩:=List.mem_map.1 hg;exact ⟨_,[],rfl,alone_not (ho y hy1).2.1 (plain0T_kind _) (by decide)⟩) r
   have e1:(aOpen::(inter aComma (x.l.map fun y=>[plain0T y])++[aShut])).map bare++r=bare aOpen::(inter (bare aComma) (x.l.map fun y=>[bare (plain0T y)])++bare aShut::r):=by
    rw[List.map_cons,List.map_append,inter_map];simp[List.map_map,Function.comp_def]
   rw[e1];unfold exprP;rw[bind_of (may_yes (s:=[91]) rfl)];show pbind (exprsP [93] plainP) _ _=_;have e2:(x.l.map fun y=>([bare (plain0T y)],up y)).map (·.1)=x.l.map fun y=>[bare (plain0T y)]:=by simp[List.map_map,Function.comp_def]
   rw[e2]at this;rw[bind_of this];have e3:((x.l.map fun y=>([bare (plain0T y)],up y)).map (·.2)).map Ex.low=x.l:=by
    rw[List.map_map,List.map_map];rw[List.map_congr_left (g:=id) fun y hy1=>by
     obtain ⟨k,n,s,m⟩:=y;have:m=0:=(ho _ hy1).1;subst this;rfl]
    simp
   rw[e3];obtain ⟨k,n,s,l⟩:=x;dsimp only at hk4 hn0 hs0;subst hk4 hn0 hs0;rfl
theorem exprs_ok {xs:List Ex} (hr:∀x∈xs,RngE x) (h:(joinS (xs.map exprS)).2=true):xs.length≤64∧(∀x∈xs,LowE x)∧Spk (joinS (xs.map exprS)).1 (inter aComma (xs.map exprT))∧∀(e:Tok) (r:List Tok),e.t=[41]→exprsP [41] exprP ((inter aComma (xs.map exprT)).map bare++e::r)= .ok xs r:=by
 obtain ⟨h1,h2,h3⟩:=joinS_ok (tx_eq h);rw[List.length_map]at h1;have hx:∀x∈xs,(exprS x).2=true:=fun x hx=>h2 _ (List.mem_map.2 ⟨x,hx,rfl⟩);refine ⟨h1,fun x hx1=>(expr_ok (hr x hx1) (hx x hx1)).1,?_,fun e r he=> ?_⟩
 ·rw[h3];have:=Spk.join (l:=xs.map fun x=>((exprS x).1,exprT x)) (fun g hg=>by
   obtain ⟨x,hx1,rfl⟩:=List.mem_map.1 hg;exact (expr_ok (hr x hx1) (hx x hx1)).2.1)
  simpa[List.map_map,Function.comp_def]using this
 ·have:=exprs_of (en:=[41]) (one:=exprP) (by decide) he (xs.map fun x=>((exprT x).map bare,x)) (by simpa using h1) (fun g hg r=>by
   obtain ⟨x,hx1,rfl⟩:=List.mem_map.1 hg;exact (expr_ok (hr x hx1) (hx x hx1)).2.2.2 r) (fun g hg=>by
   obtain ⟨x,hx1,rfl⟩:=List.mem_map.1 hg;exact (expr_ok (hr x hx1) (hx x hx1)).2.2.1) r
  rw[inter_map];simpa[List.map_map,Function.comp_def]using this
end Go.Proofs.YtpfhgkielakmoaaGreatDoor
set_option linter.unusedSimpArgs false
set_option linter.unusedVariables false
namespace Go.Proofs.YtpfhgkielakmoaaGreatDoor
def aW (s:List UInt8):T3:=(1,s,0)
def aS (c:UInt8):T3:=(3,[c],0)
def aCC:T3:=(3,[58,58],0)
def aDots:T3:=(3,[46,46],0)
def aN (n:Int):T3:=(2,Lib.itoa n,n)
theorem sp_word {w s:List UInt8} {ts:List T3} {c:UInt8} (h:Alone (aW w)) (hc:isWord c=false) (hs:Sp (c::s) ts):Sp (w++c::s) (aW w::ts):=
 Sp.no (x:=aW w) h (fun d r e=>by
  injection e with e _;subst e;refine ⟨fun _=>hc,fun e=>absurd e (show (1:Int)≠2 by decide),fun e=> ?_⟩;have h1:=h.1;rw[show (aW w).2.1=[58] from e]at h1;have h2:wordL [58]=(1,1):=h1;exact absurd h2 (by decide)) hs
theorem sp_word_sp {w s:List UInt8} {ts:List T3} (h:Alone (aW w)) (hs:Sp s ts):Sp (w++32::s) (aW w::ts):=Sp.sp (x:=aW w) h hs
theorem sp_sign {c:UInt8} {s:List UInt8} {ts:List T3} (h:isSign c=true) (hc:c≠58) (hs:Sp s ts):Sp (c::s) (aS c::ts):=
 Sp.no (x:=aS c) (alone_sign h) (fun d r _=>⟨fun e=>absurd e (show (3:Int)≠1 by decide),fun e=>absurd e (show (3:Int)≠2 by decide),fun e=>by
  have:[c]=[58]:=e;injection this with e _;exact absurd e hc⟩) hs
theorem sp_sign_sp {c:UInt8} {s:List UInt8} {ts:List T3} (h:isSign c=true) (hs:Sp s ts):Sp (c::32::s) (aS c::ts):=Sp.sp (x:=aS c) (alone_sign h) hs
theorem sp_cc {s:List UInt8} {ts:List T3} (hs:Sp s ts):Sp (58::58::32::s) (aCC::ts):=Sp.sp (x:=aCC) alone_colons hs
theorem sp_dots {s:List UInt8} {ts:List T3} (hs:Sp s ts):Sp (46::46::s) (aDots::ts):=
 Sp.no (x:=aDots) alone_dots (fun d r _=>⟨fun e=>absurd e (show (3:Int)≠1 by decide),fun e=>absurd e (show (3:Int)≠2 by decide),fun e=>absurd e (show ([46,46]:List UInt8)≠[58] by decide)⟩) hs
theorem sp_num {n:Int} {s:List UInt8} {ts:List T3} {c:UInt8} (h:I64 n) (hc:isDigit c=false) (hs:Sp (c::s) ts):Sp (Lib.itoa n++c::s) (aN n::ts):=
 Sp.no (x:=aN n) (itoa_alone n h.1 h.2) (fun d r e=>by
  injection e with e _;subst e;refine ⟨fun e=>absurd e (show (2:Int)≠1 by decide),fun _=>hc,fun e=> ?_⟩;have h1:=(itoa_alone n h.1 h.2).1;rw[show (Lib.itoa n)=[58] from e]at h1;have h2:wordL [58]=(2,1):=h1;exact absurd h2 (by decide)) hs
theorem itoa_1:Lib.itoa 1=[49]:=by
 unfold Lib.itoa;rw[if_neg (by decide),Lib.decDigits,dif_pos (by decide)];rfl
theorem sp_end {s:List UInt8} {ts:List T3} (hs:Sp s ts):Sp (59::10::s) (aS 59::ts):=Sp.lf (x:=aS 59) (alone_sign (by decide)) hs
theorem truth_alone (b:Bool):Alone (aW (truthS b)):=by cases b<;>exact alone_word (by decide)
theorem name_of {s:List UInt8} (h:NameA s) (l:List Tok):nameP (bare (aW s)::l)= .ok s l:=by
 show nameP (⟨1,s,0,0⟩::l)=_;rw[name_at,if_neg (by rw[h.2];decide)]
theorem number_of (n:Int) (l:List Tok):numberP (bare (aN n)::l)= .ok n l:=rfl
theorem exact_of (n:Int) (l:List Tok):exactP n (bare (aN n)::l)= .ok () l:=by
 unfold exactP;rw[if_pos ⟨rfl,rfl⟩];rfl
theorem truth_of (b:Bool) (l:List Tok):truthP (bare (aW (truthS b))::l)= .ok b l:=by
 cases b
 ·unfold truthP;rw[bind_of (may_no (t:=bare (aW (truthS false))) (by decide)),if_neg (by decide),bind_of (take_yes (s:=wInt) (t:=bare (aW (truthS false))) rfl)];rfl
 ·unfold truthP;rw[bind_of (may_yes (s:=wBool) (t:=bare (aW (truthS true))) rfl)];rfl
def V (x:It):List T3:=inter aComma (x.vals.map plainT)
def parT (x:It):List T3:=aW (truthS x.bool)::aS 58::aW x.name::aS 61::(V x++[aS 59])
theorem bare_of {x:It} (h:bareB x=true):x.dom=[]∧x.size=0∧x.out=false∧x.ask=0:=by
 unfold bareB at h;simp at h;exact h
theorem par_ok {x:It} (hk:x.k=1) (hr:RngI x) (h:(parS x).2=true):LowI x∧(∀s us,Sp s us→Sp ((parS x).1++10::s) (parT x++us))∧∀r,itemP ((parT x).map bare++r)= .ok x (bare (aS 59)::r):=by
 unfold parS at h⊢;dsimp only at h⊢;obtain ⟨h1,h2,h3,h4,h5⟩:(joinS (x.vals.map plainS)).2=true∧(x.vals.length==1)=true∧(x.vals.map (·.k)==[if x.bool then 2 else 1])=true∧bareB x=true∧nameB x.name=true:=by simpa[Bool.and_eq_true]using h
 obtain ⟨hnm,_⟩:=nameB_iff.1 h5;obtain ⟨b1,b2,b3,b4⟩:=bare_of h4;have hn:∀y∈x.vals,I64 y.n:=fun y hy=>(hr.2.2 y hy).1;obtain ⟨p1,p2,p3,_⟩:=plains_ok hn h1;obtain ⟨y,hy⟩:=List.length_eq_one_iff.1 (by simpa using h2:x.vals.length=1);have hyS:(plainS y).2=true:=(joinS_ok (tx_eq h1)).2.1 _ (List.mem_map.2 ⟨y,by rw[hy];exact List.mem_cons_self,rfl⟩);obtain ⟨y1,y2,⟨t,y3,y4⟩,y5⟩:=plain_ok (hn y (by rw[hy];exact List.mem_cons_self)) hyS;refine ⟨⟨by rw[b1];exact Nat.zero_le _,p1,fun z hz=>lowE_nil (p2 z hz)⟩,fun s us hs=> ?_,fun r=> ?_⟩
 ·have e1:=p3 (59::10::s) _ ⟨59,_,rfl,Or.inr (Or.inr (Or.inr (Or.inl rfl)))⟩ (sp_end hs);have e2:=sp_word (truth_alone x.bool) (c:=58) (by decide) (sp_sign_sp (c:=58) (by decide) (sp_word_sp hnm.1 (sp_sign_sp (c:=61) (by decide) e1)));simpa[parT,V]using e2
 ·have hkv:y.k=if x.bool then 2 else 1:=by
   rw[hy]at h3;simpa using h3
  have hV:(V x).map bare=[t]:=by
   unfold V;rw[hy];exact y3
  have e0:(parT x).map bare++r=bare (aW (truthS x.bool))::bare (aS 58)::bare (aW x.name)::bare (aS 61)::t::bare (aS 59)::r:=by
   unfold parT;simp[hV]
  have y5':plainP (t::bare (aS 59)::r)= .ok y (bare (aS 59)::r):=by
   have:=y5 (bare (aS 59)::r);rw[y3]at this;exact this
  have hfit:fitsP x.bool (t::bare (aS 59)::r)=true:=by
   have hq:=hkv;have hp:=plain0_ok (y:=y.low) (hn y (by rw[hy];exact List.mem_cons_self)) (tx_eq hyS);have ht:t=bare (plain0T y.low):=by
    have:[bare (plain0T y.low)]=[t]:=y3;injection this with e _;exact e.symm
   unfold fitsP;cases hb:x.bool with
   |true=>
    rw[hb]at hq;rw[if_pos rfl,isP_cons,isP_cons,ht];have:plain0T y.low=if y.n=1 then aTrue else aFalse:=by
     unfold plain0T;rw[show y.low.k=2 from hq,if_neg (by decide),if_pos rfl];rfl
    rw[this];split<;>decide
   |false=>
    rw[hb]at hq;rw[if_neg (by decide),isP_cons,isP_cons,ht];have hk1:plain0T y.low=aN y.n:=by
     unfold plain0T;rw[show y.low.k=1 from hq,if_pos rfl];rfl
    rw[hk1];have hal:=itoa_alone y.n (hn y (by rw[hy];exact List.mem_cons_self)).1 (hn y (by rw[hy];exact List.mem_cons_self)).2;have n1:Lib.itoa y.n≠wTrue:=fun e=>by
     have:=hal.1;rw[show (2,Lib.itoa y.n,y.n).2.1=wTrue from e]at this;have h2:wordL wTrue=(2,4):=this;exact absurd h2 (by decide)
    have n2:Lib.itoa y.n≠wFalse:=fun e=>by
     have:=hal.1;rw[show (2,Lib.itoa y.n,y.n).2.1=wFalse from e]at this;have h2:wordL wFalse=(2,5):=this;exact absurd h2 (by decide)
    have m1:((bare (aN y.n)).t==wTrue)=false:=beq_eq_false_iff_ne.2 n1;have m2:((bare (aN y.n)).t==wFalse)=false:=beq_eq_false_iff_ne.2 n2;rw[m1,m2];rfl
  rw[e0];unfold itemP;have hi:(isP wInt (bare (aW (truthS x.bool))::bare (aS 58)::bare (aW x.name)::bare (aS 61)::t::bare (aS 59)::r)||isP wBool (bare (aW (truthS x.bool))::bare (aS 58)::bare (aW x.name)::bare (aS 61)::t::bare (aS 59)::r))=true:=by
   rw[isP_cons,isP_cons];cases x.bool<;>decide
  rw[if_pos hi];unfold parP;rw[bind_of (truth_of x.bool _),bind_of (take_yes (s:=[58]) (t:=bare (aS 58)) rfl),bind_of (name_of hnm _),bind_of (take_yes (s:=[61]) (t:=bare (aS 61)) rfl),if_pos hfit,bind_of y5'];obtain ⟨k,nm,b,d,z,o,v,a⟩:=x;dsimp only at hk hy b1 b2 b3 b4;subst hk hy b1 b2 b3 b4;rfl
end Go.Proofs.YtpfhgkielakmoaaGreatDoor

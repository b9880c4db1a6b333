import Derived.Test.YtpfhgkielakmoaaGreatDoorYn
import Derived.Test.YtpfhgkielakmoaaGreatDoorYp
set_option linter.unusedSimpArgs false
set_option linter.unusedVariables false
namespace Go.Proofs.YtpfhgkielakmoaaGreatDoor
def Sim {α:Type} (p:PR α) (q:Option (List Tok)×α):Prop:=match p with
 | .ok x r=>q=(some r,x)
 | .bad _ _=>q.1=none
def SimU (p:PR Unit) (q:Option (List Tok)):Prop:=match p with
 | .ok _ r=>q=some r
 | .bad _ _=>q=none
theorem Sim.two {α:Type} {p:PR α} {q:Option (List Tok)×α} (h:Sim p q):(∃x r,p= .ok x r∧q=(some r,x))∨(∃e r,p= .bad e r∧q.1=none):=by
 cases p with
 |ok x r=>exact .inl ⟨x,r,rfl,h⟩
 |bad e r=>exact .inr ⟨e,r,rfl,h⟩
theorem SimU.two {p:PR Unit} {q:Option (List Tok)} (h:SimU p q):(∃r,p= .ok () r∧q=some r)∨(∃e r,p= .bad e r∧q=none):=by
 cases p with
 |ok x r=>exact .inl ⟨r,rfl,h⟩
 |bad e r=>exact .inr ⟨e,r,rfl,h⟩
theorem isO_P {s:List UInt8} (hs:s≠[]) (l:List Tok):isO s (some l)=isP s l:=by
 cases l with
 |nil=>exact beq_false_of_ne (Ne.symm hs)
 |cons t r=>rfl
theorem takeO_none (s:List UInt8):takeO s none=none:=by
 unfold takeO;split<;>rfl
theorem takeO_P {s:List UInt8} (hs:s≠[]) (l:List Tok):SimU (takeP s l) (takeO s (some l)):=by
 unfold takeO takeP;rw[isO_P hs];cases isP s l<;>rfl
theorem nameO_none:nameO none=(none,[]):=rfl
theorem exactO_none (k:Int):exactO k none=none:=rfl
theorem numO_none:numO none=false:=rfl
theorem iN_outv:isO [58,58] none=false:=rfl
theorem iN_is:isO [61] none=false:=rfl
theorem iN_true:isO wTrue none=false:=rfl
theorem iN_false:isO wFalse none=false:=rfl
theorem iN_end (k:UInt8):isO [k] none=false:=rfl
theorem kind_named (t:Tok) (r:List Tok):(kindP (t::r)=1↔namedO (some (t::r))=true):=by
 show (if t.k=1∧wordP t.t=true then (0:Int) else t.k)=1↔(t.k==1&& !wordP t.t)=true;by_cases h:t.k=1∧wordP t.t=true
 ·rw[if_pos h];simp[h.2]
 ·rw[if_neg h];constructor
  ·intro hk;have:wordP t.t=false:=by
    cases hw:wordP t.t with
    |true=>exact absurd ⟨hk,hw⟩ h
    |false=>rfl
   simp[hk,this]
  ·intro hk;simp at hk;exact hk.1
theorem kind_number (t:Tok) (r:List Tok):(kindP (t::r)=2↔t.k=2):=by
 show (if t.k=1∧wordP t.t=true then (0:Int) else t.k)=2↔_;by_cases h:t.k=1∧wordP t.t=true
 ·rw[if_pos h];have:=h.1;omega
 ·rw[if_neg h]
theorem nameO_P (l:List Tok):Sim (nameP l) (nameO (some l)):=by
 unfold nameP;cases l with
 |nil=>rfl
 |cons t r=>
  by_cases h:kindP (t::r)=1
  ·rw[if_pos h];show (if namedO (some (t::r))=true then (some r,t.t) else (none,[]))=_;rw[if_pos ((kind_named t r).1 h)];rfl
  ·rw[if_neg h];show (if namedO (some (t::r))=true then (some r,t.t) else (none,[])).1=none;rw[if_neg (fun e=>h ((kind_named t r).2 e))]
theorem intO_P (l:List Tok):Sim (numberP l) (intO (some l)):=by
 unfold numberP;cases l with
 |nil=>rfl
 |cons t r=>
  by_cases h:kindP (t::r)=2
  ·rw[if_pos h];show (if (t.k==2)=true then (some r,t.v) else (none,0))=_;rw[if_pos (by simpa using (kind_number t r).1 h)];rfl
  ·rw[if_neg h];show (if (t.k==2)=true then (some r,t.v) else (none,0)).1=none;rw[if_neg (fun e=>h ((kind_number t r).2 (by simpa using e)))]
theorem exactO_P (k:Int) (l:List Tok):SimU (exactP k l) (exactO k (some l)):=by
 unfold exactP;cases l with
 |nil=>rfl
 |cons t r=>
  by_cases h:kindP (t::r)=2∧(headP (t::r)).v=k
  ·rw[if_pos h];show (if t.k=2∧t.v=k then some r else none)=some r;rw[if_pos ⟨(kind_number t r).1 h.1,h.2⟩]
  ·rw[if_neg h];show (if t.k=2∧t.v=k then some r else none)=none;rw[if_neg (fun e=>h ⟨(kind_number t r).2 e.1,e.2⟩)]
theorem word_tf {t:List UInt8} (h:t=wTrue∨t=wFalse):wordP t=true:=by
 rcases h with rfl|rfl<;>decide
theorem plainO_P (l:List Tok):Sim (plainP l) (plainO (some l)):=by
 unfold plainP;cases l with
 |nil=>rfl
 |cons t r=>
  have e:plainO (some (t::r))=if t.k=2 then (some r,⟨1,t.v,[],[]⟩) else if t.t=wTrue then (some r,⟨2,1,[],[]⟩) else if t.t=wFalse then (some r,⟨2,0,[],[]⟩) else if namedO (some (t::r))=true then (some r,⟨3,0,t.t,[]⟩) else (none,⟨0,0,[],[]⟩):=rfl
  rw[e];by_cases h2:kindP (t::r)=2
  ·rw[if_pos h2,if_pos ((kind_number t r).1 h2)];rfl
  rw[if_neg h2,if_neg (fun e=>h2 ((kind_number t r).2 e))];by_cases h1:kindP (t::r)=1
  ·have hn:=(kind_named t r).1 h1;have hw:wordP t.t=false:=by
    have:(t.k==1&& !wordP t.t)=true:=hn;simp at this;exact this.2
   rw[if_pos h1,if_neg (fun e=>by rw[word_tf (.inl e)]at hw;cases hw),if_neg (fun e=>by rw[word_tf (.inr e)]at hw;cases hw),if_pos hn];rfl
  rw[if_neg h1];by_cases ht:t.t=wTrue
  ·rw[if_pos (show isP wTrue (t::r)=true from by show (t.t==wTrue)=true;rw[ht];rfl),if_pos ht];rfl
  rw[if_neg (show ¬isP wTrue (t::r)=true from fun e=>ht (eq_of_beq e)),if_neg ht];by_cases hf:t.t=wFalse
  ·rw[if_pos (show isP wFalse (t::r)=true from by show (t.t==wFalse)=true;rw[hf];rfl),if_pos hf];rfl
  rw[if_neg (show ¬isP wFalse (t::r)=true from fun e=>hf (eq_of_beq e)),if_neg hf,if_neg (fun e=>h1 ((kind_named t r).2 e))];rfl
theorem kindO_P (l:List Tok):Sim (truthP l) (kindO (some l)):=by
 unfold truthP kindO;rw[isO_P (by decide)];cases hb:isP wBool l with
 |true=>
  rw[pbind_ok (show mayP wBool l= .ok true l.tail by unfold mayP;rw[if_pos hb])];show (takeO wBool (some l),true)=(some l.tail,true);unfold takeO;rw[isO_P (by decide),hb];rfl
 |false=>
  rw[pbind_ok (show mayP wBool l= .ok false l by unfold mayP;rw[if_neg (by rw[hb];decide)])];rcases (takeO_P (s:=wInt) (by decide) l).two with ⟨r,a,b⟩|⟨e,r,a,b⟩
  ·show Sim (pbind (takeP wInt) _ l) _;rw[pbind_ok a];show (takeO wInt (some l),false)=_;rw[b]
  ·show Sim (pbind (takeP wInt) _ l) _;rw[pbind_bad a];show (takeO wInt (some l))=none;rw[b]
theorem goO_P {en:List UInt8} (hen:en≠[]) {one:Pm Ex} {oneO:OX} (h1:∀l,Sim (one l) (oneO (some l))):∀(k:Nat) (acc:List Ex) (l:List Tok),Sim (exprsGo en one k acc l) (goO en oneO k acc (some l))
 |0,_,_=>rfl
 |k+1,acc,l=>by
  show Sim (pbind one (fun x=>pbind (mayP en) fun b=>if b then pret (acc++[x]) else pbind (takeP [44]) fun _=>exprsGo en one k (acc++[x])) l) (if isO en (oneO (some l)).1 then ((oneO (some l)).1.map List.tail,acc++[(oneO (some l)).2]) else goO en oneO k (acc++[(oneO (some l)).2]) (takeO [44] (oneO (some l)).1));rcases (h1 l).two with ⟨x,r,a,b⟩|⟨e,r,a,b⟩
  ·rw[pbind_ok a,b];dsimp only;rw[isO_P hen];cases hb:isP en r with
   |true=>
    rw[pbind_ok (show mayP en r= .ok true r.tail by unfold mayP;rw[if_pos hb])];rfl
   |false=>
    rw[pbind_ok (show mayP en r= .ok false r by unfold mayP;rw[if_neg (by rw[hb];decide)])];show Sim (pbind (takeP [44]) (fun _=>exprsGo en one k (acc++[x])) r) (goO en oneO k (acc++[x]) (takeO [44] (some r)));rcases (takeO_P (s:=[44]) (by decide) r).two with ⟨r2,a2,b2⟩|⟨e,r2,a2,b2⟩
    ·rw[pbind_ok a2,b2];exact goO_P hen h1 k (acc++[x]) r2
    ·rw[pbind_bad a2,b2,goO_none];rfl
  ·rw[pbind_bad a,b];have hz:isO en none=false:=beq_false_of_ne (Ne.symm hen);rw[hz,takeO_none,goO_none];rfl
theorem exprsO_P {en:List UInt8} (hen:en≠[]) {one:Pm Ex} {oneO:OX} (h1:∀l,Sim (one l) (oneO (some l))) (l:List Tok):Sim (exprsP en one l) (exprsO en oneO (some l)):=by
 unfold exprsP exprsO;rw[isO_P hen];cases hb:isP en l with
 |true=>
  rw[pbind_ok (show mayP en l= .ok true l.tail by unfold mayP;rw[if_pos hb])];rfl
 |false=>
  rw[pbind_ok (show mayP en l= .ok false l by unfold mayP;rw[if_neg (by rw[hb];decide)])];exact goO_P hen h1 64 [] l
theorem exprO_P (l:List Tok):Sim (exprP l) (exprO (some l)):=by
 unfold exprP exprO;rw[isO_P (by decide)];cases hb:isP [91] l with
 |true=>
  rw[pbind_ok (show mayP [91] l= .ok true l.tail by unfold mayP;rw[if_pos hb])];show Sim (pbind (exprsP [93] plainP) (fun xs=>pret (⟨4,0,[],xs.map Ex.low⟩:Ex)) l.tail) ((exprsO [93] plainO (some l.tail)).1,(⟨4,0,[],(exprsO [93] plainO (some l.tail)).2.map Ex.low⟩:Ex));rcases (exprsO_P (en:=[93]) (by decide) plainO_P l.tail).two with ⟨x,r,a,b⟩|⟨e,r,a,b⟩
  ·rw[pbind_ok a,b];rfl
  ·rw[pbind_bad a];exact b
 |false=>
  rw[pbind_ok (show mayP [91] l= .ok false l by unfold mayP;rw[if_neg (by rw[hb];decide)])];exact plainO_P l
theorem rgO_P:∀(k:Nat) (acc:List (Int×Int)) (l:List Tok),Sim (domGo k acc l) (rgO k acc (some l))
 |0,_,_=>rfl
 |k+1,acc,l=>by
  show Sim (pbind numberP (fun n=>pbind (mayP [125]) fun b=>if b then pret (acc++[(n,n)]) else pbind (takeP [44]) fun _=>domGo k (acc++[(n,n)])) l) (if isO [125] (intO (some l)).1 then ((intO (some l)).1.map List.tail,acc++[((intO (some l)).2,(intO (some l)).2)]) else rgO k (acc++[((intO (some l)).2,(intO (some l)).2)]) (takeO [44] (intO (some l)).1));rcases (intO_P l).two with ⟨x,r,a,b⟩|⟨e,r,a,b⟩
  ·rw[pbind_ok a,b];dsimp only;rw[isO_P (by decide)];cases hb:isP [125] r with
   |true=>
    rw[pbind_ok (show mayP [125] r= .ok true r.tail by unfold mayP;rw[if_pos hb])];rfl
   |false=>
    rw[pbind_ok (show mayP [125] r= .ok false r by unfold mayP;rw[if_neg (by rw[hb];decide)])];show Sim (pbind (takeP [44]) (fun _=>domGo k (acc++[(x,x)])) r) (rgO k (acc++[(x,x)]) (takeO [44] (some r)));rcases (takeO_P (s:=[44]) (by decide) r).two with ⟨r2,a2,b2⟩|⟨e,r2,a2,b2⟩
    ·rw[pbind_ok a2,b2];exact rgO_P k (acc++[(x,x)]) r2
    ·rw[pbind_bad a2,b2,rgO_none];rfl
  ·rw[pbind_bad a,b];rw[iN_end,takeO_none,rgO_none];rfl
theorem domO_P (l:List Tok):Sim (domP l) (domO (some l)):=by
 unfold domP domO;rw[isO_P (by decide),isO_P (by decide)];cases hb:isP wBool l with
 |true=>
  rw[pbind_ok (show mayP wBool l= .ok true l.tail by unfold mayP;rw[if_pos hb])];rfl
 |false=>
  rw[pbind_ok (show mayP wBool l= .ok false l by unfold mayP;rw[if_neg (by rw[hb];decide)])];simp only[Bool.false_eq_true,if_false];cases hc:isP [123] l with
  |true=>
   rw[pbind_ok (show mayP [123] l= .ok true l.tail by unfold mayP;rw[if_pos hc])];simp only[if_true,Option.map_some];rcases (rgO_P 256 [] l.tail).two with ⟨x,r,a,b⟩|⟨e,r,a,b⟩
   ·rw[pbind_ok a,b];rfl
   ·rw[pbind_bad a];exact b
  |false=>
   rw[pbind_ok (show mayP [123] l= .ok false l by unfold mayP;rw[if_neg (by rw[hc];decide)])];simp only[Bool.false_eq_true,if_false];rcases (intO_P l).two with ⟨x,r,a,b⟩|⟨e,r,a,b⟩
   ·rw[pbind_ok a,b];dsimp only;rcases (takeO_P (s:=[46,46]) (by decide) r).two with ⟨r2,a2,b2⟩|⟨e,r2,a2,b2⟩
    ·rw[pbind_ok a2,b2];rcases (intO_P r2).two with ⟨y,r3,a3,b3⟩|⟨e,r3,a3,b3⟩
     ·rw[pbind_ok a3,b3];rfl
     ·rw[pbind_bad a3];exact b3
    ·rw[pbind_bad a2,b2];rfl
   ·rw[pbind_bad a,b,takeO_none];rfl
theorem varO_P (l:List Tok):Sim (variableP l) (varO (some l)):=by
 unfold variableP varO;dsimp only;rcases (domO_P l).two with ⟨d,r1,a1,b1⟩|⟨e,r1,a1,b1⟩
 ·rw[pbind_ok a1,b1];dsimp only;rcases (takeO_P (s:=[58]) (by decide) r1).two with ⟨r2,a2,b2⟩|⟨e,r2,a2,b2⟩
  ·rw[pbind_ok a2,b2];rcases (nameO_P r2).two with ⟨nm,r3,a3,b3⟩|⟨e,r3,a3,b3⟩
   ·rw[pbind_ok a3,b3];dsimp only;rw[isO_P (by decide)];have fin:∀(o:Bool) (r:List Tok),Sim (pbind (mayP [61]) (fun v=>if v then pbind plainP (fun x=>pret (⟨2,nm,d.1,d.2,0,o,[x],0⟩:It)) else pret ⟨2,nm,d.1,d.2,0,o,[],0⟩) r) ((if isO [61] (some r) then ((plainO ((some r).map List.tail)).1,[(plainO ((some r).map List.tail)).2]) else (some r,[])).1,(⟨2,nm,d.1,d.2,0,o,(if isO [61] (some r) then ((plainO ((some r).map List.tail)).1,[(plainO ((some r).map List.tail)).2]) else (some r,[])).2,0⟩:It)):=fun o r=>by
     rw[isO_P (by decide)];cases hc:isP [61] r with
     |true=>
      rw[pbind_ok (show mayP [61] r= .ok true r.tail by unfold mayP;rw[if_pos hc])];simp only[if_true,Option.map_some];rcases (plainO_P r.tail).two with ⟨x,r4,a4,b4⟩|⟨e,r4,a4,b4⟩
      ·rw[pbind_ok a4,b4];rfl
      ·rw[pbind_bad a4];exact b4
     |false=>
      rw[pbind_ok (show mayP [61] r= .ok false r by unfold mayP;rw[if_neg (by rw[hc];decide)])];rfl
    cases hb:isP [58,58] r3 with
    |true=>
     rw[pbind_ok (show mayP [58,58] r3= .ok true r3.tail by unfold mayP;rw[if_pos hb])];simp only[if_true,Option.map_some];rcases (takeO_P (s:=wOutVar) (by decide) r3.tail).two with ⟨r4,a4,b4⟩|⟨e,r4,a4,b4⟩
     ·rw[pbind_ok a4,b4];exact fin true r4
     ·rw[pbind_bad a4,b4];simp only[iN_is,Bool.false_eq_true,if_false];rfl
    |false=>
     rw[pbind_ok (show mayP [58,58] r3= .ok false r3 by unfold mayP;rw[if_neg (by rw[hb];decide)])];simp only[Bool.false_eq_true,if_false];exact fin false r3
   ·rw[pbind_bad a3];show Sim (.bad e r3) _;show _=none;dsimp only;rw[b3];simp only[iN_outv,iN_is,Bool.false_eq_true,if_false]
  ·rw[pbind_bad a2,b2,nameO_none];simp only[iN_outv,iN_is,Bool.false_eq_true,if_false];rfl
 ·rw[pbind_bad a1,b1,takeO_none,nameO_none];simp only[iN_outv,iN_is,Bool.false_eq_true,if_false];rfl
def GT (l:List Tok):Prop:=∀t∈l,t.k=2→t.t≠wTrue∧t.t≠wFalse
theorem GT.right {c r:List Tok} (h:GT (c++r)):GT r:=fun t ht=>h t (List.mem_append_right _ ht)
theorem GT.suf {l r:List Tok} (h:GT l) (hc:∃c,l=c++r):GT r:=by
 obtain ⟨c,rfl⟩:=hc;exact h.right
theorem fits_P (b:Bool) (l:List Tok) (hl:GT l):fitsP b l=((b&&(isO wTrue (some l)||isO wFalse (some l)))||(!b&&numO (some l))):=by
 rw[isO_P (by decide),isO_P (by decide)];unfold fitsP;cases b with
 |true=>simp
 |false=>
  simp only[Bool.false_eq_true,if_false,Bool.false_and,Bool.false_or,Bool.not_false,Bool.true_and];cases l with
  |nil=>rfl
  |cons t r=>
   show (!(t.t==wTrue||t.t==wFalse)&&decide (kindP (t::r)=2))=(t.k==2);by_cases hk:t.k=2
   ·obtain ⟨h1,h2⟩:=hl t List.mem_cons_self hk;rw[beq_false_of_ne h1,beq_false_of_ne h2,decide_eq_true ((kind_number t r).2 hk),hk];rfl
   ·rw[decide_eq_false (fun e=>hk ((kind_number t r).1 e)),Bool.and_false];exact (beq_false_of_ne hk).symm
theorem parO_P (l:List Tok) (hl:GT l):Sim (parP l) (parO (some l)):=by
 unfold parP parO;dsimp only;rcases (kindO_P l).two with ⟨b,r1,a1,b1⟩|⟨e,r1,a1,b1⟩
 ·rw[pbind_ok a1,b1];dsimp only;have g1:=hl.suf (nice_truth.suf _ _ _ a1);rcases (takeO_P (s:=[58]) (by decide) r1).two with ⟨r2,a2,b2⟩|⟨e,r2,a2,b2⟩
  ·rw[pbind_ok a2,b2];have g2:=g1.suf ((nice_take (by decide)).suf _ _ _ a2);rcases (nameO_P r2).two with ⟨nm,r3,a3,b3⟩|⟨e,r3,a3,b3⟩
   ·rw[pbind_ok a3,b3];have g3:=g2.suf (nice_name.suf _ _ _ a3);dsimp only;rcases (takeO_P (s:=[61]) (by decide) r3).two with ⟨r4,a4,b4⟩|⟨e,r4,a4,b4⟩
    ·have g4:=g3.suf ((nice_take (by decide)).suf _ _ _ a4);rw[pbind_ok a4,b4,←fits_P _ _ g4];by_cases hf:fitsP b r4=true
     ·rw[if_pos hf,if_pos hf];rcases (plainO_P r4).two with ⟨x,r5,a5,b5⟩|⟨e,r5,a5,b5⟩
      ·rw[pbind_ok a5,b5];rfl
      ·rw[pbind_bad a5];exact b5
     ·rw[if_neg hf,if_neg hf];rfl
    ·rw[pbind_bad a4,b4];simp only[iN_true,iN_false,numO_none,Bool.or_false,Bool.and_false,Bool.false_eq_true,if_false];rfl
   ·rw[pbind_bad a3];show _=none;rw[b3,takeO_none];simp only[iN_true,iN_false,numO_none,Bool.or_false,Bool.and_false,Bool.false_eq_true,if_false]
  ·rw[pbind_bad a2,b2,nameO_none];simp only[takeO_none,iN_true,iN_false,numO_none,Bool.or_false,Bool.and_false,Bool.false_eq_true,if_false];rfl
 ·rw[pbind_bad a1];show _=none;rw[b1];simp only[takeO_none,nameO_none,iN_true,iN_false,numO_none,Bool.or_false,Bool.and_false,Bool.false_eq_true,if_false]
theorem takesO_none:∀ss:List (List UInt8),ss.foldl (fun o s=>takeO s o) none=none
 |[]=>rfl
 |s::ss=>by
  show ss.foldl _ (takeO s none)=none;rw[takeO_none];exact takesO_none ss
theorem takesO_P:∀(ss:List (List UInt8)),(∀s∈ss,s≠[])→∀l:List Tok,SimU (takesP ss l) (ss.foldl (fun o s=>takeO s o) (some l))
 |[],_,_=>rfl
 |s::ss,h,l=>by
  show SimU (pbind (takeP s) (fun _=>takesP ss) l) (ss.foldl (fun o s=>takeO s o) (takeO s (some l)));rcases (takeO_P (h s List.mem_cons_self) l).two with ⟨r,a,b⟩|⟨e,r,a,b⟩
  ·rw[pbind_ok a,b];exact takesO_P ss (fun s hs=>h s (List.mem_cons_of_mem _ hs)) r
  ·rw[pbind_bad a,b,takesO_none];rfl
theorem arrEnd_P (F:List Ex→It) (o:Option (List Tok)):(o=none→∀q:Option (List Tok)×List Ex,q=(match takeO [91] (takeO [61] o) with|none=>(none,[])|some l=>exprsO [93] plainO (some l))→q.1=none)∧∀l,o=some l→∀q:Option (List Tok)×List Ex,q=(match takeO [91] (takeO [61] o) with|none=>(none,[])|some l=>exprsO [93] plainO (some l))→Sim (pbind (takesP [[61],[91]]) (fun _=>pbind (exprsP [93] plainP) fun xs=>pret (F xs)) l) (q.1,F q.2):=by
 constructor
 ·intro ho q hq;rw[ho,takeO_none,takeO_none]at hq;rw[hq]
 ·intro l ho q hq;rw[ho]at hq;rcases (takesO_P [[61],[91]] (by decide) l).two with ⟨r,a,b⟩|⟨e,r,a,b⟩
  ·rw[pbind_ok a];have b':takeO [91] (takeO [61] (some l))=some r:=b;rw[b']at hq;dsimp only at hq;rcases (exprsO_P (en:=[93]) (by decide) plainO_P r).two with ⟨x,r2,a2,b2⟩|⟨e,r2,a2,b2⟩
   ·rw[pbind_ok a2,hq,b2];rfl
   ·rw[pbind_bad a2,hq];exact b2
  ·rw[pbind_bad a];have b':takeO [91] (takeO [61] (some l))=none:=b;rw[b']at hq;rw[hq];rfl
theorem arrO_P (l:List Tok):Sim (arrayP l) (arrO (some l)):=by
 obtain ⟨sz,hsz⟩:∃q,q=intO (takeO [46,46] (exactO 1 (takeO [91] (some l)))):=⟨_,rfl⟩;obtain ⟨s2,hs2⟩:∃q,q=takeO wOf (takeO [93] sz.1):=⟨_,rfl⟩;obtain ⟨s3,hs3⟩:∃q:Option (List Tok)×Int,q=if isO wVar s2 then (s2.map List.tail,4) else (s2,3):=⟨_,rfl⟩
 obtain ⟨kd,hkd⟩:∃q,q=kindO s3.1:=⟨_,rfl⟩;obtain ⟨nm,hnm⟩:∃q,q=nameO (takeO [58] kd.1):=⟨_,rfl⟩;obtain ⟨s4,hs4⟩:∃q:Option (List Tok)×Bool,q=if s3.2=4∧isO [58,58] nm.1=true then (takeO [41] (takeO [93] (exactO sz.2 (takeO [46,46] (exactO 1 (takeO [91] (takeO [40] (takeO wOutArray (nm.1.map List.tail)))))))),true) else (nm.1,false):=⟨_,rfl⟩
 obtain ⟨xs,hxs⟩:∃q:Option (List Tok)×List Ex,q=(match takeO [91] (takeO [61] s4.1) with
  |none=>(none,[])
  |some l=>exprsO [93] plainO (some l)):=⟨_,rfl⟩
 have e:arrO (some l)=(xs.1,⟨s3.2,nm.2,kd.2,[],sz.2,s4.2,xs.2,0⟩):=by
  rw[hxs,hs4,hnm,hkd,hs3,hs2,hsz];rfl
 rw[e];clear e;have n4:s4.1=none→xs.1=none:=fun h=>(arrEnd_P (fun _=>itZ) s4.1).1 h xs hxs;have nN:nm.1=none→xs.1=none:=fun h=>n4 (by
  rw[hs4,h];rw[if_neg (by rw[iN_outv];intro h;cases h.2)])
 have nK:kd.1=none→xs.1=none:=fun h=>nN (by rw[hnm,h,takeO_none];rfl);have n3:s3.1=none→xs.1=none:=fun h=>nK (by rw[hkd,h];rfl);have n2:s2=none→xs.1=none:=fun h=>n3 (by rw[hs3,h];rfl);have nS:sz.1=none→xs.1=none:=fun h=>n2 (by rw[hs2,h,takeO_none,takeO_none]);unfold arrayP;rcases (takeO_P (s:=[91]) (by decide) l).two with ⟨r1,a1,b1⟩|⟨e,r1,a1,b1⟩
 case inr=>
  rw[pbind_bad a1];exact nS (by rw[hsz,b1];rfl)
 rw[pbind_ok a1];rw[b1]at hsz;rcases (exactO_P 1 r1).two with ⟨r2,a2,b2⟩|⟨e,r2,a2,b2⟩
 case inr=>
  rw[pbind_bad a2];exact nS (by rw[hsz,b2];rfl)
 rw[pbind_ok a2];rw[b2]at hsz;rcases (takeO_P (s:=[46,46]) (by decide) r2).two with ⟨r3,a3,b3⟩|⟨e,r3,a3,b3⟩
 case inr=>
  rw[pbind_bad a3];exact nS (by rw[hsz,b3];rfl)
 rw[pbind_ok a3];rw[b3]at hsz;rcases (intO_P r3).two with ⟨n,r4,a4,b4⟩|⟨e,r4,a4,b4⟩
 case inr=>
  rw[pbind_bad a4];exact nS (by rw[hsz,b4])
 rw[pbind_ok a4];rw[b4]at hsz;subst hsz;dsimp only at*;rcases (takesO_P [[93],wOf] (by decide) r4).two with ⟨r5,a5,b5⟩|⟨e,r5,a5,b5⟩
 case inr=>
  rw[pbind_bad a5];exact n2 (by rw[hs2];exact b5)
 rw[pbind_ok a5];replace b5:takeO wOf (takeO [93] (some r4))=some r5:=b5;rw[b5]at hs2;subst hs2;rw[isO_P (by decide)]at hs3;obtain ⟨v,r6,a6,b6⟩:∃v r6,mayP wVar r5= .ok v r6∧s3=(some r6,if v then 4 else 3):=by
  cases hb:isP wVar r5 with
  |true=>exact ⟨true,r5.tail,by unfold mayP;rw[if_pos hb],by rw[hs3,hb];rfl⟩
  |false=>exact ⟨false,r5,by unfold mayP;rw[if_neg (by rw[hb];decide)],by rw[hs3,hb];rfl⟩
 rw[pbind_ok a6];clear hs3;subst b6;dsimp only at*;rcases (kindO_P r6).two with ⟨b,r7,a7,b7⟩|⟨e,r7,a7,b7⟩
 case inr=>
  rw[pbind_bad a7];exact nK (by rw[hkd];exact b7)
 rw[pbind_ok a7];rw[b7]at hkd;subst hkd;dsimp only at*;rcases (takeO_P (s:=[58]) (by decide) r7).two with ⟨r8,a8,b8⟩|⟨e,r8,a8,b8⟩
 case inr=>
  rw[pbind_bad a8];exact nN (by rw[hnm,b8];rfl)
 rw[pbind_ok a8];rw[b8]at hnm;rcases (nameO_P r8).two with ⟨w,r9,a9,b9⟩|⟨e,r9,a9,b9⟩
 case inr=>
  rw[pbind_bad a9];exact nN (by rw[hnm];exact b9)
 rw[pbind_ok a9];rw[b9]at hnm;subst hnm;dsimp only at*;rw[isO_P (by decide)]at hs4;have fin:∀(o:Bool) (r:List Tok),s4=(some r,o)→Sim (pbind (takesP [[61],[91]]) (fun _=>pbind (exprsP [93] plainP) fun xs=>pret (⟨if v then 4 else 3,w,b,[],n,o,xs,0⟩:It)) r) (xs.1,⟨if v then 4 else 3,w,b,[],n,s4.2,xs.2,0⟩):=fun o r h=>by
  rw[h]at hxs⊢;exact (arrEnd_P (fun xs=>(⟨if v then 4 else 3,w,b,[],n,o,xs,0⟩:It)) (some r)).2 r rfl xs hxs
 by_cases hv:v=true∧isP [58,58] r9=true
 ·obtain ⟨rfl,hp⟩:=hv;rw[if_pos ⟨rfl,hp⟩]at hs4;simp only[if_true];rw[pbind_ok (show mayP [58,58] r9= .ok true r9.tail by unfold mayP;rw[if_pos hp])];simp only[if_true,Option.map_some]at hs4⊢;rcases (takesO_P [wOutArray,[40],[91]] (by decide) r9.tail).two with ⟨q1,c1,d1⟩|⟨e,q1,c1,d1⟩
  case inr=>
   replace d1:takeO [91] (takeO [40] (takeO wOutArray (some r9.tail)))=none:=d1;rw[pbind_bad (pbind_bad c1)];exact n4 (by rw[hs4,d1,exactO_none,takeO_none,exactO_none,takeO_none,takeO_none])
  replace d1:takeO [91] (takeO [40] (takeO wOutArray (some r9.tail)))=some q1:=d1;rw[pbind_ok2 c1];rw[d1]at hs4;rcases (exactO_P 1 q1).two with ⟨q2,c2,d2⟩|⟨e,q2,c2,d2⟩
  case inr=>
   rw[pbind_bad2 c2];exact n4 (by rw[hs4,d2,takeO_none,exactO_none,takeO_none,takeO_none])
  rw[pbind_ok2 c2];rw[d2]at hs4;rcases (takeO_P (s:=[46,46]) (by decide) q2).two with ⟨q3,c3,d3⟩|⟨e,q3,c3,d3⟩
  case inr=>
   rw[pbind_bad2 c3];exact n4 (by rw[hs4,d3,exactO_none,takeO_none,takeO_none])
  rw[pbind_ok2 c3];rw[d3]at hs4;rcases (exactO_P n q3).two with ⟨q4,c4,d4⟩|⟨e,q4,c4,d4⟩
  case inr=>
   rw[pbind_bad2 c4];exact n4 (by rw[hs4,d4,takeO_none,takeO_none])
  rw[pbind_ok2 c4];rw[d4]at hs4;rcases (takesO_P [[93],[41]] (by decide) q4).two with ⟨q5,c5,d5⟩|⟨e,q5,c5,d5⟩
  case inr=>
   replace d5:takeO [41] (takeO [93] (some q4))=none:=d5;rw[pbind_bad c5];exact n4 (by rw[hs4,d5])
  replace d5:takeO [41] (takeO [93] (some q4))=some q5:=d5;rw[pbind_ok c5];exact fin true q5 (by rw[hs4,d5])
 ·have hs4':s4=(some r9,false):=by
   rw[hs4,if_neg];intro h;refine hv ⟨?_,h.2⟩;cases v with
   |true=>rfl
   |false=>exact absurd h.1 (by decide)
  have hm:(if v then mayP [58,58] else pret false) r9= .ok false r9:=by
   cases v with
   |false=>rfl
   |true=>
    show mayP [58,58] r9=_;unfold mayP;rw[if_neg (fun h=>hv ⟨rfl,h⟩)]
  rw[pbind_ok hm];simp only[Bool.false_eq_true,if_false];exact fin false r9 hs4'
theorem solO_P (l:List Tok):Sim (goalP l) (solO (some l)):=by
 unfold goalP solO;rw[isO_P (by decide),isO_P (by decide),isO_P (by decide)];cases h1:isP wSatisfy l with
 |true=>
  rw[pbind_ok (show mayP wSatisfy l= .ok true l.tail by unfold mayP;rw[if_pos h1])];rfl
 |false=>
  rw[pbind_ok (show mayP wSatisfy l= .ok false l by unfold mayP;rw[if_neg (by rw[h1];decide)])];simp only[Bool.false_eq_true,if_false];cases h2:isP wMinimize l with
  |true=>
   rw[pbind_ok (show mayP wMinimize l= .ok true l.tail by unfold mayP;rw[if_pos h2])];simp only[if_true,Option.map_some];rcases (nameO_P l.tail).two with ⟨w,r9,a9,b9⟩|⟨e,r9,a9,b9⟩
   ·rw[pbind_ok a9,b9];rfl
   ·rw[pbind_bad a9];exact b9
  |false=>
   rw[pbind_ok (show mayP wMinimize l= .ok false l by unfold mayP;rw[if_neg (by rw[h2];decide)])];simp only[Bool.false_eq_true,if_false];cases h3:isP wMaximize l with
   |true=>
    rw[pbind_ok (show mayP wMaximize l= .ok true l.tail by unfold mayP;rw[if_pos h3])];simp only[if_true,Option.map_some];rcases (nameO_P l.tail).two with ⟨w,r9,a9,b9⟩|⟨e,r9,a9,b9⟩
    ·rw[pbind_ok a9,b9];rfl
    ·rw[pbind_bad a9];exact b9
   |false=>
    rw[pbind_ok (show mayP wMaximize l= .ok false l by unfold mayP;rw[if_neg (by rw[h3];decide)])];rfl
theorem conO_P (l:List Tok):Sim (pbind nameP (fun nm=>pbind (takeP [40]) fun _=>pbind (exprsP [41] exprP) fun xs=>pret (⟨5,nm,false,[],0,false,xs,0⟩:It)) l) (conO (some l)):=by
 unfold conO;dsimp only;rcases (nameO_P l).two with ⟨w,r9,a9,b9⟩|⟨e,r9,a9,b9⟩
 ·rw[pbind_ok a9,b9];dsimp only;rcases (takeO_P (s:=[40]) (by decide) r9).two with ⟨q3,c3,d3⟩|⟨e,q3,c3,d3⟩
  ·rw[pbind_ok c3,d3];dsimp only;rcases (exprsO_P (en:=[41]) (by decide) exprO_P q3).two with ⟨x,r2,a2,b2⟩|⟨e,r2,a2,b2⟩
   ·rw[pbind_ok a2,b2];rfl
   ·rw[pbind_bad a2];exact b2
  ·rw[pbind_bad c3,d3];rfl
 ·rw[pbind_bad a9,b9,takeO_none];rfl
theorem hereO_is {s:List UInt8} (hs:s≠[]) (l:List Tok):(hereO (some l)=s)↔isP s l=true:=by
 rw[←isO_P hs];exact ⟨fun h=>by unfold isO;rw[h];exact beq_self_eq_true s,fun h=>eq_of_beq h⟩
theorem itemO_P (l:List Tok) (hl:GT l):Sim (itemP l) (itemO (some l)):=by
 unfold itemP itemO;simp only[hereO_is (show wInt≠[] by decide),hereO_is (show wBool≠[] by decide),hereO_is (show wVar≠[] by decide),hereO_is (show wArray≠[] by decide),hereO_is (show wConstraint≠[] by decide),hereO_is (show wSolve≠[] by decide)];by_cases h0:isP wInt l=true∨isP wBool l=true
 ·rw[if_pos h0,if_pos (by simpa using h0)];exact parO_P l hl
 rw[if_neg h0,if_neg (by simpa using h0)];cases h1:isP wVar l with
 |true=>
  rw[pbind_ok (show mayP wVar l= .ok true l.tail by unfold mayP;rw[if_pos h1])];exact varO_P l.tail
 |false=>
  rw[pbind_ok (show mayP wVar l= .ok false l by unfold mayP;rw[if_neg (by rw[h1];decide)])];simp only[Bool.false_eq_true,if_false];cases h2:isP wArray l with
  |true=>
   rw[pbind_ok (show mayP wArray l= .ok true l.tail by unfold mayP;rw[if_pos h2])];exact arrO_P l.tail
  |false=>
   rw[pbind_ok (show mayP wArray l= .ok false l by unfold mayP;rw[if_neg (by rw[h2];decide)])];simp only[Bool.false_eq_true,if_false];cases h3:isP wConstraint l with
   |true=>
    rw[pbind_ok (show mayP wConstraint l= .ok true l.tail by unfold mayP;rw[if_pos h3])];exact conO_P l.tail
   |false=>
    rw[pbind_ok (show mayP wConstraint l= .ok false l by unfold mayP;rw[if_neg (by rw[h3];decide)])];simp only[Bool.false_eq_true,if_false];cases h4:isP wSolve l with
    |true=>
     rw[pbind_ok (show mayP wSolve l= .ok true l.tail by unfold mayP;rw[if_pos h4])];exact solO_P l.tail
    |false=>
     rw[pbind_ok (show mayP wSolve l= .ok false l by unfold mayP;rw[if_neg (by rw[h4];decide)])];rfl
def PR.opt {α:Type}:PR α→Option α
 | .ok x _=>some x
 | .bad _ _=>none
theorem take_suf {s:List UInt8} {l r:List Tok} {u:Unit} (h:takeP s l= .ok u r):∃c,l=c++r:=by
 unfold takeP at h;split at h
 ·injection h with h1 h2;cases l with
  |nil=>exact ⟨[],by rw[←h2];rfl⟩
  |cons t q=>exact ⟨[t],by rw[←h2];rfl⟩
 ·cases h
theorem allO_P:∀(k:Nat) (acc:List It) (l:List Tok),GT l→allO k acc l=(allGo k acc l).opt
 |k,acc,[],_=>by cases k<;>rfl
 |0,acc,t::l,_=>rfl
 |k+1,acc,t::l,hl=>by
  show _=(pbind itemP (fun x=>pbind (takeP [59]) fun _=>allGo k (acc++[x])) (t::l)).opt;rcases (itemO_P (t::l) hl).two with ⟨x,r,a,b⟩|⟨e,r,a,b⟩
  ·rw[pbind_ok a];have g:=hl.suf (nice_item.suf _ _ _ a);rcases (takeO_P (s:=[59]) (by decide) r).two with ⟨r2,a2,b2⟩|⟨e,r2,a2,b2⟩
   ·rw[pbind_ok a2,allO_ok b b2];exact allO_P k (acc++[x]) r2 (g.suf (take_suf a2))
   ·rw[pbind_bad a2,allO_bad b b2];rfl
  ·rw[pbind_bad a,allO_bad (o1:=none) (x:=(itemO (some (t::l))).2) (Prod.ext b rfl) (takeO_none _)];rfl
theorem gt_alone {l:List Tok} (h:∀t∈l,Alone (stripT t)):GT l:=fun t ht hk=>by
 have h1:=(h t ht).1;obtain ⟨k,w,v,p⟩:=t;have hk':k=2:=hk;subst hk';have h2:wordL w=(2,w.length):=h1;refine ⟨fun e=> ?_,fun e=> ?_⟩
 ·have e':w=wTrue:=e;subst e';revert h2;decide
 ·have e':w=wFalse:=e;subst e';revert h2;decide
theorem dtext_P (s:List UInt8):dtextO s=if (textP s).2.2=0 then some (textP s).1 else none:=by
 unfold dtextO;by_cases h:(splitR s).2.2=0
 ·rw[if_pos h,textP_ok h];obtain ⟨ts,e1,e2,_⟩:=splitR_ok h;have hal:=toks_alone _ _ (Nat.le_refl _) ts e1;have g:=gt_alone (l:=(splitR s).1) (fun t ht=>hal _ (by rw[←e2];exact List.mem_map_of_mem ht));rw[allO_P 512 [] _ g];cases ha:allGo 512 [] (splitR s).1 with
  |ok x r=>rfl
  |bad e r=>
   show none=if e=0 then _ else none
   rw[if_neg (allGo_bad _ _ _ _ _ ha).2]
 ·rw[if_neg h,textP_bad h];show none=if (splitR s).2.2=0 then _ else none
  rw[if_neg h]
end Go.Proofs.YtpfhgkielakmoaaGreatDoor

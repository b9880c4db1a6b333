/-
  Joined texts: Va, Vb.
-/
import Derived.Test.YtpfhgkielakmoaaGreatDoorPd
import Derived.Lib.ItoaNum
set_option linter.unusedSimpArgs false
set_option linter.unusedVariables false
namespace Go.Proofs.YtpfhgkielakmoaaGreatDoor
theorem ofNat_dig {d:Nat} (h:d<10):(UInt8.ofNat (48+d)).toNat=48+d:=by
 rw[UInt8.toNat_ofNat'];exact Nat.mod_eq_of_lt (by omega)
theorem dec_digit:∀(n u:Nat),u≤n→∀c∈Lib.decDigits u,isDigit c=true:=by
 intro n;induction n with
 |zero=>
  intro u hu c hc;obtain rfl:u=0:=by omega
  rw[Lib.decDigits,dif_pos (by omega)]at hc;rw[List.mem_singleton.1 hc];decide
 |succ n ih=>
  intro u hu c hc;have one:∀d,d<10→isDigit (UInt8.ofNat (48+d))=true:=fun d hd=>by
   unfold isDigit;rw[ofNat_dig hd];simp;omega
  by_cases h:u<10
  ·rw[Lib.decDigits,dif_pos h]at hc;rw[List.mem_singleton.1 hc];exact one u h
  ·rw[Lib.decDigits,dif_neg h]at hc;rcases List.mem_append.1 hc with hc|hc
   ·exact ih (u/10) (by omega) c hc
   ·rw[List.mem_singleton.1 hc];exact one _ (Nat.mod_lt _ (by omega))
theorem dec_ne (u:Nat):Lib.decDigits u≠[]:=by
 rw[Lib.decDigits];split
 ·simp
 ·simp
theorem uint_snoc (M:Nat) (c:UInt8):∀(l:List UInt8) (acc:Nat) {u:Nat},Lib.parseUintM M acc l= .ok u→Lib.parseUintM M acc (l++[c])=Lib.parseUintM M u [c]:=by
 intro l;induction l with
 |nil=>
  intro acc u h;unfold Lib.parseUintM at h;injection h with h;subst h;rfl
 |cons x r ih=>
  intro acc u h;rw[List.cons_append];unfold Lib.parseUintM at h;split at h
  ·rename_i h1;split at h
   ·cases h
   ·rename_i h2;split at h
    ·cases h
    ·rename_i h3;rw[←ih _ h];exact (if_pos h1).trans ((if_neg h2).trans (if_neg h3))
  ·cases h
theorem uint_one {u:Nat} (h:u<10):Lib.parseUintM 18446744073709551615 0 (Lib.decDigits u)= .ok u:=by
 rw[Lib.decDigits,dif_pos h];unfold Lib.parseUintM;rw[ofNat_dig h,if_pos (by omega),if_neg (by omega),if_neg (by omega)];unfold Lib.parseUintM;congr 1;omega
theorem uint_dec:∀(n u:Nat),u≤n→u<18446744073709551616→Lib.parseUintM 18446744073709551615 0 (Lib.decDigits u)= .ok u:=by
 intro n;induction n with
 |zero=>
  intro u hu _;exact uint_one (by omega)
 |succ n ih=>
  intro u hu hM;by_cases h:u<10
  ·exact uint_one h
  ·rw[Lib.decDigits,dif_neg h,uint_snoc _ _ _ _ (ih (u/10) (by omega) (by omega))];have hd:u%10<10:=Nat.mod_lt _ (by omega);unfold Lib.parseUintM;rw[ofNat_dig hd,if_pos (by omega),if_neg (by omega),if_neg (by omega)];unfold Lib.parseUintM;congr 1;omega
theorem dec_head (u:Nat):∃c r,Lib.decDigits u=c::r∧isDigit c=true:=by
 cases h:Lib.decDigits u with
 |nil=>exact absurd h (dec_ne u)
 |cons c r=>exact ⟨c,r,rfl,dec_digit u u (Nat.le_refl _) c (by rw[h];exact List.mem_cons_self)⟩
theorem digit_not {c:UInt8} (h:isDigit c=true):c.toNat≠43∧c.toNat≠45:=by
 unfold isDigit at h;simp at h;omega
theorem itoa_back (n:Int) (h0: -9223372036854775808≤n) (h1:n≤9223372036854775807):Lib.parseIntB 64 (Lib.itoa n)= .ok n:=by
 by_cases h:n<0
 ·have hu:n.natAbs<18446744073709551616:=by omega
  obtain ⟨c,r,hc,hd⟩:=dec_head n.natAbs;have e:Lib.itoa n=45::Lib.decDigits n.natAbs:=by unfold Lib.itoa;rw[if_pos h]
  have hb:Lib.parseUintB 64 (Lib.decDigits n.natAbs)= .ok n.natAbs:=by
   unfold Lib.parseUintB;rw[if_neg (dec_ne _)];exact uint_dec _ _ (Nat.le_refl _) hu
  rw[e];unfold Lib.parseIntB;dsimp only;have h45:(45:UInt8).toNat=45:=rfl;rw[if_pos (Or.inr h45),hb];dsimp only;rw[if_neg (by rintro ⟨h,_⟩;exact h h45),if_neg (by rintro ⟨_,h⟩;simp at h;omega),if_pos h45];congr 1;omega
 ·have hu:n.toNat<18446744073709551616:=by omega
  obtain ⟨c,r,hc,hd⟩:=dec_head n.toNat;obtain ⟨n1,n2⟩:=digit_not hd;have e:Lib.itoa n=Lib.decDigits n.toNat:=by unfold Lib.itoa;rw[if_neg h]
  have hb:Lib.parseUintB 64 (Lib.decDigits n.toNat)= .ok n.toNat:=by
   unfold Lib.parseUintB;rw[if_neg (dec_ne _)];exact uint_dec _ _ (Nat.le_refl _) hu
  rw[e];rw[hc]at hb⊢;unfold Lib.parseIntB;dsimp only;rw[if_neg (by omega),hb];dsimp only;rw[if_neg (by rintro ⟨_,h⟩;simp at h;omega),if_neg (by rintro ⟨h,_⟩;exact n2 h),if_neg n2];congr 1;omega
theorem takeWhile_allV {p:UInt8→Bool} {l:List UInt8} (h:∀c∈l,p c=true):l.takeWhile p=l:=by
 induction l with
 |nil=>rfl
 |cons c r ih=>rw[List.takeWhile_cons,if_pos (h c List.mem_cons_self),ih fun x hx=>h x (List.mem_cons_of_mem _ hx)]
theorem itoa_alone (n:Int) (h0: -9223372036854775808≤n) (h1:n≤9223372036854775807):Alone (2,Lib.itoa n,n):=by
 refine ⟨?_,(show (2:Int)≠0 by decide),by unfold valL;rw[if_pos rfl,itoa_back n h0 h1]⟩;dsimp only;by_cases h:n<0
 ·have e:Lib.itoa n=45::Lib.decDigits n.natAbs:=by unfold Lib.itoa;rw[if_pos h]
  obtain ⟨c,r,hc,hd⟩:=dec_head n.natAbs;rw[e];unfold wordL;dsimp only;rw[if_neg (by decide),if_neg (by decide),if_pos ⟨rfl,by rw[hc];simp[hd]⟩,takeWhile_allV (dec_digit _ _ (Nat.le_refl _)),List.length_cons,Nat.add_comm]
 ·have e:Lib.itoa n=Lib.decDigits n.toNat:=by unfold Lib.itoa;rw[if_neg h]
  obtain ⟨c,r,hc,hd⟩:=dec_head n.toNat;have ha:=dec_digit _ n.toNat (Nat.le_refl _);rw[e];rw[hc]at ha⊢;have hl:isLetter c=false:=by
   unfold isDigit at hd;unfold isLetter;simp at hd⊢;refine ⟨⟨?_,?_⟩,?_⟩
   ·rintro rfl;exact absurd hd.2 (by decide)
   ·omega
   ·omega
  unfold wordL;dsimp only;rw[if_neg (by rw[hl];decide),if_pos hd,takeWhile_allV fun x hx=>ha x (List.mem_cons_of_mem _ hx),List.length_cons,Nat.add_comm]
abbrev T3:=Int×List UInt8×Int
theorem takeWhile_stop {p:UInt8→Bool} {c:UInt8} (h:p c=false) (r b:List UInt8):(r++c::b).takeWhile p=r.takeWhile p:=by
 induction r with
 |nil=>rw[List.nil_append,List.takeWhile_cons,if_neg (by simp[h])];rfl
 |cons x r ih=>rw[List.cons_append,List.takeWhile_cons,List.takeWhile_cons,ih]
def glue (x:T3) (c:UInt8):Prop:=(x.1=1→isWord c=false)∧(x.1=2→isDigit c=false)∧(x.2.1=[58]→c≠58)
theorem wordL_glue {x:T3} (h:Alone x) {c:UInt8} (g:glue x c) (b:List UInt8):wordL (x.2.1++c::b)=wordL x.2.1:=by
 obtain ⟨k,t,v⟩:=x;obtain ⟨h1,h2,_⟩:=h;obtain ⟨g1,g2,g3⟩:=g;dsimp only at*;cases t with
 |nil=>
  unfold wordL at h1;injection h1 with e _;exact absurd e.symm h2
 |cons x r=>
  rw[List.cons_append];unfold wordL at h1⊢;dsimp only at h1⊢;by_cases c1:isLetter x=true
  ·rw[if_pos c1]at h1⊢;rw[if_pos c1];injection h1 with e _;rw[takeWhile_stop (g1 e.symm)]
  ·rw[if_neg c1]at h1⊢;rw[if_neg c1];by_cases c2:isDigit x=true
   ·rw[if_pos c2]at h1⊢;rw[if_pos c2];injection h1 with e _;rw[takeWhile_stop (g2 e.symm)]
   ·rw[if_neg c2]at h1⊢;rw[if_neg c2];cases r with
    |nil=>
     rw[if_neg (by rintro ⟨_,h⟩;simp at h),if_neg (by rintro (⟨_,h⟩|⟨_,h⟩)<;>simp at h)]at h1;rw[List.nil_append];have hs:isSign x=true:=by
      cases hq:isSign x with
      |true=>rfl
      |false=>
       rw[if_neg (by rw[hq];decide)]at h1;injection h1 with e _;exact absurd e.symm h2
     have n45:x≠45:=by rintro rfl;exact absurd hs (by decide)
     have n46:x≠46:=by rintro rfl;exact absurd hs (by decide)
     have hL1:¬(x=45∧((c::b).head?.map isDigit)=some true):=fun h=>n45 h.1;have hR1:¬(x=45∧(([]:List UInt8).head?.map isDigit)=some true):=fun h=>n45 h.1;have hL2:¬((x=58∧(c::b).head? =some 58)∨(x=46∧(c::b).head? =some 46)):=fun h=>by
      rcases h with ⟨h,h'⟩|⟨h,_⟩
      ·subst h;exact g3 rfl (by simpa using h')
      ·exact n46 h
     have hR2:¬((x=58∧([]:List UInt8).head? =some 58)∨(x=46∧([]:List UInt8).head? =some 46)):=fun h=>by
      rcases h with ⟨_,h⟩|⟨_,h⟩
      ·simp at h
      ·simp at h
     rw[if_neg hL1,if_neg hL2,if_neg hR1,if_neg hR2]
    |cons d r=>
     rw[List.cons_append];by_cases c3:x=45∧((d::r).head?.map isDigit)=some true
     ·rw[if_pos c3]at h1;rw[if_pos (show x=45∧((d::(r++c::b)).head?.map isDigit)=some true from c3),if_pos c3];injection h1 with e _;rw[←List.cons_append,takeWhile_stop (g2 e.symm)]
     ·rw[if_neg c3]at h1;rw[if_neg (show ¬(x=45∧((d::(r++c::b)).head?.map isDigit)=some true) from c3),if_neg c3];rfl
inductive Sp:List UInt8→List T3→Prop
 |nil:Sp [] []
 |no {x:T3} {s:List UInt8} {ts:List T3} (h:Alone x) (g:∀c r,s=c::r→glue x c) (t:Sp s ts):Sp (x.2.1++s) (x::ts)
 |sp {x:T3} {s:List UInt8} {ts:List T3} (h:Alone x) (t:Sp s ts):Sp (x.2.1++32::s) (x::ts)
 |lf {x:T3} {s:List UInt8} {ts:List T3} (h:Alone x) (t:Sp s ts):Sp (x.2.1++10::s) (x::ts)
theorem Sp.toks {s:List UInt8} {ts:List T3} (h:Sp s ts):blankL s=s∧YtpfhgkielakmoaaGreatDoor.toks s=some ts:=by
 induction h with
 |nil=>exact ⟨blankL_nil,toks_nil⟩
 | @no x s ts h g t ih=>
  obtain ⟨h1,h2⟩:=alone_blank h s;refine ⟨h2,?_⟩;have hw:wordL (x.2.1++s)=wordL x.2.1:=by
   cases s with
   |nil=>rw[List.append_nil]
   |cons c r=>exact wordL_glue h (g c r rfl) r
  obtain ⟨h3,h4,h5⟩:=h;rw[toks_cons (by simp[h1]),hw,h3,if_neg h4];dsimp only;rw[List.take_left,h5,List.drop_left,ih.1,ih.2];rfl
 | @sp x s ts h t ih=>
  obtain ⟨h1,h2⟩:=alone_blank h (32::s);refine ⟨h2,?_⟩;obtain ⟨h3,h4,h5⟩:=h;rw[toks_cons (by simp[h1]),wordL_sp h1,h3,if_neg h4];dsimp only;rw[List.take_left,h5,List.drop_left,blank_sp,ih.1,ih.2];rfl
 | @lf x s ts h t ih=>
  obtain ⟨h1,h2⟩:=alone_blank h (10::s);refine ⟨h2,?_⟩;obtain ⟨h3,h4,h5⟩:=h;rw[toks_cons (by simp[h1]),wordL_lf h1,h3,if_neg h4];dsimp only;rw[List.take_left,h5,List.drop_left,blank_lf,ih.1,ih.2];rfl
end Go.Proofs.YtpfhgkielakmoaaGreatDoor
set_option linter.unusedSimpArgs false
set_option linter.unusedVariables false
namespace Go.Proofs.YtpfhgkielakmoaaGreatDoor
theorem splitB_ok (n:Nat):∀(k:Nat) (l:List UInt8) (acc:List Tok),l.length≤k→acc.length≤4096→(splitB n l acc).2.2=0→∃ts,toks l=some ts∧(splitB n l acc).1.map stripT=acc.map stripT++ts∧acc.length+ts.length≤4096∧(splitB n l acc).2.1=0:=by
 intro k;induction k with
 |zero=>
  intro l acc hl ha _;obtain rfl:l=[]:=List.length_eq_zero_iff.1 (by omega);rw[splitB_nil];exact ⟨[],toks_nil,by simp,ha,rfl⟩
 |succ k ih=>
  intro l acc hl ha h;by_cases h0:l=[]
  ·subst h0;rw[splitB_nil];exact ⟨[],toks_nil,by simp,ha,rfl⟩
  ·by_cases h4:acc.length=4096
   ·rw[splitB,if_neg h0,if_pos h4]at h;exact absurd h (by simp)
   ·rw[splitB_cons h0 h4]at h⊢;rw[toks_cons h0];by_cases hw:(wordL l).1=0
    ·rw[if_pos hw]at h;exact absurd h (by simp)
    ·rw[if_neg hw]at h⊢;rw[if_neg hw];cases hv:valL (wordL l).1 (l.take (wordL l).2) with
     |none=>
      rw[hv]at h;exact absurd h (by simp)
     |some v=>
      rw[hv]at h;dsimp only at h⊢;have h1:=wordL_pos hw;have h2:=blankL_le (l.drop (wordL l).2);rw[List.length_drop]at h2;obtain ⟨ts,e1,e2,e3,e4⟩:=ih _ _ (by omega:(blankL (l.drop (wordL l).2)).length≤k) (by rw[List.length_append,List.length_singleton];omega) h;refine ⟨((wordL l).1,l.take (wordL l).2,v)::ts,by rw[e1];rfl,?_,?_,e4⟩
      ·rw[e2,List.map_append,List.append_assoc];rfl
      ·rw[List.length_append,List.length_singleton]at e3;rw[List.length_cons];omega
theorem splitB_of (n:Nat):∀(k:Nat) (l:List UInt8) (acc:List Tok) (ts:List T3),l.length≤k→toks l=some ts→acc.length+ts.length≤4096→(splitB n l acc).2.2=0:=by
 intro k;induction k with
 |zero=>
  intro l acc ts hl _ _;obtain rfl:l=[]:=List.length_eq_zero_iff.1 (by omega);rw[splitB_nil]
 |succ k ih=>
  intro l acc ts hl ht ha;by_cases h0:l=[]
  ·subst h0;rw[splitB_nil]
  ·rw[toks_cons h0]at ht;by_cases hw:(wordL l).1=0
   ·rw[if_pos hw]at ht;cases ht
   ·rw[if_neg hw]at ht;cases hv:valL (wordL l).1 (l.take (wordL l).2) with
    |none=>rw[hv]at ht;cases ht
    |some v=>
     rw[hv,Option.bind_some]at ht;cases hq:toks (blankL (l.drop (wordL l).2)) with
     |none=>rw[hq]at ht;cases ht
     |some ts'=>
      rw[hq]at ht;obtain rfl:=Option.some.inj ht;rw[List.length_cons]at ha;have h1:=wordL_pos hw;have h2:=blankL_le (l.drop (wordL l).2);rw[List.length_drop]at h2;rw[splitB_cons h0 (by omega),if_neg hw,hv];exact ih _ _ ts' (by omega) hq (by rw[List.length_append,List.length_singleton];omega)
theorem splitR_ok {l:List UInt8} (h:(splitR l).2.2=0):∃ts,toks (blankL l)=some ts∧(splitR l).1.map stripT=ts∧ts.length≤4096∧l.length≤8192∧(splitR l).2.1=0:=by
 by_cases hl:l.length≤8192
 ·rw[splitR_small hl]at h⊢;obtain ⟨ts,e1,e2,e3,e4⟩:=splitB_ok l.length _ (blankL l) [] (Nat.le_refl _) (by simp) h;exact ⟨ts,e1,by simpa using e2,by simpa using e3,hl,e4⟩
 ·unfold splitR at h;rw[if_pos (by omega)]at h;exact absurd h (by decide)
theorem splitR_of {l:List UInt8} {ts:List T3} (hl:l.length≤8192) (ht:toks (blankL l)=some ts) (hn:ts.length≤4096):(splitR l).2.2=0∧(splitR l).1.map stripT=ts:=by
 have h:(splitR l).2.2=0:=by
  rw[splitR_small hl];exact splitB_of l.length _ (blankL l) [] ts (Nat.le_refl _) ht (by simpa using hn)
 obtain ⟨ts',e1,e2,_⟩:=splitR_ok h;rw[ht]at e1;obtain rfl:=Option.some.inj e1;exact ⟨h,e2⟩
theorem splitR_iff {l:List UInt8} {ts:List T3} (ht:toks (blankL l)=some ts):(splitR l).2.2=0↔l.length≤8192∧ts.length≤4096:=by
 constructor
 ·intro h;obtain ⟨ts',e1,e2,e3,e4,_⟩:=splitR_ok h;rw[ht]at e1;obtain rfl:=Option.some.inj e1;exact ⟨e4,e3⟩
 ·exact fun h=>(splitR_of h.1 ht h.2).1
def bare (x:T3):Tok:=⟨x.1,x.2.1,x.2.2,0⟩
theorem strip_bare (ts:List T3):(ts.map bare).map stripT=ts:=by
 rw[List.map_map];exact (List.map_congr_left fun x _=>rfl).trans (List.map_id' ts)
theorem text_of {l:List UInt8} {ts:List T3} (hl:l.length≤8192) (ht:toks (blankL l)=some ts) (hn:ts.length≤4096) {xs:List It} {r:List Tok} (h:allGo 512 [] (ts.map bare)= .ok xs r):textP l=(xs,0,0):=by
 obtain ⟨h1,h2⟩:=splitR_of hl ht hn;have al:=allGo_alike 512 [] (ts.map bare) (splitR l).1 (by rw[strip_bare,h2]);rw[h]at al;rw[textP_ok h1];cases e:allGo 512 [] (splitR l).1 with
 |ok y q=>
  rw[e]at al;obtain ⟨rfl,_⟩:=al;rfl
 |bad c q=>
  rw[e]at al;exact al.elim
def wSolMin:List UInt8:=[115,111,108,118,101,32,109,105,110,105,109,105,122,101,32]
def nameB (s:List UInt8):Bool:=(match splitR s with
 |([t],_,e)=>e==0&&(t.k==1&&t.t==s)
 |_=>false)&&(textP (wSolMin++s++[59])).2.2==0
def NameA (s:List UInt8):Prop:=Alone (1,s,0)∧wordP s=false
theorem alone_val {t:List UInt8} {k v:Int} (h:Alone (k,t,v)) (hk:k≠2):v=0:=by
 have:=h.2.2;unfold valL at this;rw[if_neg hk]at this;exact (Option.some.inj this).symm
theorem alone_sign {c:UInt8} (h:isSign c=true):Alone (3,[c],0):=by
 have h1:isLetter c=false∧isDigit c=false∧c≠45∧c≠46:=by
  unfold isSign at h;simp at h;rcases h with ((((((((h|h)|h)|h)|h)|h)|h)|h)|h)|h<;>subst h<;>decide
 refine ⟨?_,(show (3:Int)≠0 by decide),rfl⟩;unfold wordL;dsimp only;rw[if_neg (by rw[h1.1];decide),if_neg (by rw[h1.2.1];decide),if_neg (fun e=>h1.2.2.1 e.1),if_neg (by rintro (⟨_,h⟩|⟨_,h⟩)<;>simp at h),if_pos h];rfl
theorem alone_colons:Alone (3,[58,58],0):=by
 refine ⟨?_,(show (3:Int)≠0 by decide),rfl⟩;decide
theorem alone_dots:Alone (3,[46,46],0):=by
 refine ⟨?_,(show (3:Int)≠0 by decide),rfl⟩;decide
theorem alone_word {s:List UInt8} (h:wordL s=(1,s.length)):Alone (1,s,0):=⟨h,(show (1:Int)≠0 by decide),rfl⟩
def aSolve:T3:=(1,wSolve,0)
def aMin:T3:=(1,wMinimize,0)
def aSemi:T3:=(3,[59],0)
theorem sol_spell {s:List UInt8} (h:Alone (1,s,0)):Sp (wSolMin++s++[59]) [aSolve,aMin,(1,s,0),aSemi]:=by
 have h1:Sp [59] [aSemi]:=Sp.no (x:=aSemi) (alone_sign (by decide)) (fun c r e=>by cases e) Sp.nil;have h2:Sp (s++[59]) [(1,s,0),aSemi]:=Sp.no (x:=(1,s,0)) h (fun c r e=>by injection e with e _;subst e;exact ⟨fun _=>by decide,fun h=>absurd h (show (1:Int)≠2 by decide),fun _=>by decide⟩) h1;have h3:Sp (wMinimize++32::(s++[59])) [aMin,(1,s,0),aSemi]:=Sp.sp (x:=aMin) (alone_word (by decide)) h2;have h4:=Sp.sp (x:=aSolve) (alone_word (by decide)) h3;have e:wSolMin++s++[59]=aSolve.2.1++32::(wMinimize++32::(s++[59])):=by
  unfold wSolMin aSolve wSolve wMinimize;simp
 rw[e];exact h4
theorem name_at (s:List UInt8) (v a:Int) (l:List Tok):nameP (⟨1,s,v,a⟩::l)=if wordP s=true then .bad 5 (⟨1,s,v,a⟩::l) else .ok s l:=by
 unfold nameP kindP;by_cases h:wordP s=true
 ·simp[h,wrongP,errP]
 ·simp[h,headP]
theorem sol_parse (s:List UInt8):allGo 512 [] ([aSolve,aMin,(1,s,0),aSemi].map bare)=if wordP s=true then .bad 5 [⟨1,s,0,0⟩,bare aSemi] else .ok [⟨6,s,false,[],0,false,[],1⟩] []:=by
 show allGo (511+1) [] (bare aSolve::_)=_;rw[allGo_cons];have h1:itemP [bare aSolve,bare aMin,⟨1,s,0,0⟩,bare aSemi]=if wordP s=true then .bad 5 [⟨1,s,0,0⟩,bare aSemi] else .ok ⟨6,s,false,[],0,false,[],1⟩ [bare aSemi]:=by
  show pbind nameP (fun nm=>pret (⟨6,nm,false,[],0,false,[],1⟩:It)) [(⟨1,s,0,0⟩:Tok),bare aSemi]=_;unfold pbind;rw[name_at];by_cases h:wordP s=true
  ·rw[if_pos h,if_pos h]
  ·rw[if_neg h,if_neg h];rfl
 show pbind itemP _ [bare aSolve,bare aMin,⟨1,s,0,0⟩,bare aSemi]=_;unfold pbind;rw[h1];by_cases h:wordP s=true
 ·rw[if_pos h,if_pos h]
 ·rw[if_neg h,if_neg h];rfl
theorem nameB_iff {s:List UInt8}:nameB s=true↔NameA s∧s.length≤8176:=by
 constructor
 ·intro h;unfold nameB at h;rw[Bool.and_eq_true]at h;obtain ⟨h1,h2⟩:=h;have h3:(splitR s).2.2=0∧∃t,(splitR s).1=[t]∧t.k=1∧t.t=s:=by
   generalize splitR s=R at*;obtain ⟨l,p,e⟩:=R;match l,h1 with
   |[t],h1=>
    simp at h1;exact ⟨h1.1,t,rfl,h1.2.1,h1.2.2⟩
  obtain ⟨h4,t,h5,h6,h7⟩:=h3;obtain ⟨ts,e1,e2,_,_,_⟩:=splitR_ok h4;have ha:=toks_alone _ _ (Nat.le_refl _) ts e1;rw[h5]at e2;have ha1:=ha (stripT t) (by rw[←e2];exact List.mem_cons_self);unfold stripT at ha1;rw[h6,h7]at ha1;have hv:=alone_val ha1 (by decide);rw[hv]at ha1;have hl:(wSolMin++s++[59]).length≤8192:=by
   have h8:(textP (wSolMin++s++[59])).2.2=0:=by simpa using h2
   obtain ⟨_,_,_,_,h9,_⟩:=splitR_ok (textP_split h8).1;exact h9
  have hsp:=(sol_spell ha1).toks;refine ⟨⟨ha1,?_⟩,by simp[wSolMin]at hl;omega⟩;rcases Bool.eq_false_or_eq_true (wordP s) with hw|hw
  ·exfalso;have h8:(textP (wSolMin++s++[59])).2.2=0:=by simpa using h2
   obtain ⟨k1,k2⟩:=splitR_of hl (by rw[hsp.1];exact hsp.2) (by simp);have al:=allGo_alike 512 [] ([aSolve,aMin,(1,s,0),aSemi].map bare) (splitR (wSolMin++s++[59])).1 (by rw[strip_bare,k2]);rw[sol_parse,if_pos hw]at al;rw[textP_ok k1]at h8;cases e:allGo 512 [] (splitR (wSolMin++s++[59])).1 with
   |ok y q=>rw[e]at al;exact al.elim
   |bad c q=>
    rw[e]at al h8;obtain ⟨rfl,_⟩:=al;dsimp only at h8;exact absurd h8 (by decide)
  ·exact hw
 ·rintro ⟨⟨ha,hw⟩,hl⟩;unfold nameB;have hl2:(wSolMin++s++[59]).length≤8192:=by simp[wSolMin];omega
  have hsp:=(sol_spell ha).toks;have hp:=sol_parse s;rw[if_neg (by rw[hw];decide)]at hp;have ht:=text_of hl2 (by rw[hsp.1];exact hsp.2) (by simp) hp;rw[ht];have h1:Sp s [(1,s,0)]:=by
   have:=Sp.no (x:=(1,s,0)) ha (fun c r e=>by cases e) Sp.nil;rwa[List.append_nil]at this
  obtain ⟨k1,k2⟩:=splitR_of (by omega:s.length≤8192) (by rw[h1.toks.1];exact h1.toks.2) (by simp);generalize splitR s=R at*;obtain ⟨l,p,e⟩:=R;dsimp only at k1 k2;subst k1;obtain ⟨t,rfl⟩:∃t,l=[t]:=by
   have:=congrArg List.length k2;rw[List.length_map]at this;exact List.length_eq_one_iff.1 this
  have k3:stripT t=(1,s,0):=by simpa using k2
  unfold stripT at k3;injection k3 with a b;injection b with b _;simp[a,b]
end Go.Proofs.YtpfhgkielakmoaaGreatDoor

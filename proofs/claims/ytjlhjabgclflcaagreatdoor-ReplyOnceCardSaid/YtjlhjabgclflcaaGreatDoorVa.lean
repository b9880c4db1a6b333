/-
  Joined texts: Pc, Pd, Va.
-/
import Derived.Test.YtjlhjabgclflcaaGreatDoorPb
import Derived.Lib.ItoaNum
set_option linter.unusedSimpArgs false
set_option linter.unusedVariables false
namespace Go.Proofs.YtjlhjabgclflcaaGreatDoor
theorem take_semi {l:List Tok} {x:Unit} {r:List Tok} (h:takeP [59] l= .ok x r):∃t,l=t::r∧t.t=semi:=by
 cases l with
 |nil=>cases h
 |cons t l=>
  have h':(if (t.t==[59])=true then PR.ok () l else wrongP (t::l))= .ok x r:=h;split at h'
  ·rename_i ht;injection h' with _ h2;exact ⟨t,by rw[h2],eq_of_beq ht⟩
  ·cases h'
theorem allGo_nil (k:Nat) (acc:List It):allGo k acc []= .ok acc []:=by cases k<;>rfl
theorem allGo_cons (k:Nat) (acc:List It) (t:Tok) (l:List Tok):allGo (k+1) acc (t::l)=pbind itemP (fun x=>pbind (takeP [59]) fun _=>allGo k (acc++[x])) (t::l):=rfl
theorem allGo_alike:∀(k:Nat) (acc:List It) (l m:List Tok),l.map stripT=m.map stripT→Al (allGo k acc l) (allGo k acc m):=by
 intro k;induction k with
 |zero=>
  intro acc l m h;cases l with
  |nil=>cases m with
   |nil=>exact ⟨rfl,rfl⟩
   |cons u m=>cases h
  |cons t l=>cases m with
   |nil=>cases h
   |cons u m=>exact ⟨rfl,h⟩
 |succ k ih=>
  intro acc l m h;cases l with
  |nil=>cases m with
   |nil=>exact ⟨rfl,rfl⟩
   |cons u m=>cases h
  |cons t l=>cases m with
   |nil=>cases h
   |cons u m=>
    rw[allGo_cons,allGo_cons]
    have h1:=nice_item.alike _ _ h
    unfold pbind
    cases hx:itemP (t::l) with
    |bad e s=>
     cases hy:itemP (u::m) with
     |bad e' s'=>rw[hx,hy]at h1;exact h1
     |ok y s'=>rw[hx,hy]at h1;exact h1.elim
    |ok x s=>
     cases hy:itemP (u::m) with
     |bad e' s'=>rw[hx,hy]at h1;exact h1.elim
     |ok y s'=>
      rw[hx,hy]at h1
      obtain ⟨rfl,h2⟩:=h1
      dsimp only
      cases s with
      |nil=>cases s' with
       |nil=>exact ⟨rfl,rfl⟩
       |cons v s'=>cases h2
      |cons w s=>cases s' with
       |nil=>cases h2
       |cons v s'=>
        obtain ⟨h3,h4⟩:=List.cons.inj h2
        have e:∀(z:Tok) (q:List Tok),takeP [59] (z::q)=if (z.t==[59])=true then .ok () q else .bad 5 (z::q):=fun z q=>rfl
        rw[e,e,(strip_eq h3).2.1]
        by_cases hv:(v.t==[59])=true
        ·rw[if_pos hv,if_pos hv];exact ih _ _ _ h4
        ·rw[if_neg hv,if_neg hv];exact ⟨rfl,h2⟩
theorem allGo_bad:∀(k:Nat) (acc:List It) (l:List Tok) (e:Int) (r:List Tok),allGo k acc l= .bad e r→(∃c,l=c++r)∧e≠0:=by
 intro k;induction k with
 |zero=>
  intro acc l e r h;cases l with
  |nil=>cases h
  |cons t l=>
   injection h with h1 h2;subst h1 h2;exact ⟨⟨[],rfl⟩,by decide⟩
 |succ k ih=>
  intro acc l e r h;cases l with
  |nil=>cases h
  |cons t l=>
   rw[allGo_cons]at h;unfold pbind at h;cases hx:itemP (t::l) with
   |bad e' s=>
    rw[hx]at h;injection h with h1 h2;subst h1 h2;exact nice_item.bad _ _ _ hx
   |ok x s=>
    rw[hx]at h;dsimp only at h;obtain ⟨c,hc⟩:=nice_item.suf _ _ _ hx;cases hy:takeP [59] s with
    |bad e' s'=>
     rw[hy]at h;injection h with h1 h2;subst h1 h2;cases s with
     |nil=>
      injection hy with h3 h4;subst h3 h4;exact ⟨⟨c,hc⟩,by decide⟩
     |cons w s=>
      have hy':(if (w.t==[59])=true then PR.ok () s else .bad 5 (w::s))= .bad e' s':=hy;split at hy'
      ·cases hy'
      ·injection hy' with h3 h4;subst h3 h4;exact ⟨⟨c,hc⟩,by decide⟩
    |ok y s'=>
     rw[hy]at h;dsimp only at h;obtain ⟨u,rfl,hu⟩:=take_semi hy;obtain ⟨⟨d,h1⟩,h2⟩:=ih _ _ _ _ h;exact ⟨⟨c++u::d,by rw[hc,h1,List.append_assoc];rfl⟩,h2⟩
end Go.Proofs.YtjlhjabgclflcaaGreatDoor
set_option linter.unusedSimpArgs false
set_option linter.unusedVariables false
namespace Go.Proofs.YtjlhjabgclflcaaGreatDoor
theorem textP_ok {s:List UInt8} (h:(splitR s).2.2=0):textP s=match allGo 512 [] (splitR s).1 with| .ok x _=>(x,0,0)| .bad e r=>([],placeP s.length r,e):=by
 unfold textP;generalize splitR s=q at*;obtain ⟨l,p,e⟩:=q;dsimp only at*;rw[if_neg (by rw[h];exact fun e=>e rfl)];rfl
theorem textP_bad {s:List UInt8} (h:(splitR s).2.2≠0):textP s=([],((splitR s).2.1:Int),(splitR s).2.2):=by
 unfold textP;generalize splitR s=q at*;obtain ⟨l,p,e⟩:=q;dsimp only at*;rw[if_pos h]
theorem textP_split {s:List UInt8} (h:(textP s).2.2=0):(splitR s).2.2=0∧∃r,allGo 512 [] (splitR s).1= .ok (textP s).1 r:=by
 by_cases h0:(splitR s).2.2=0
 ·refine ⟨h0,?_⟩;rw[textP_ok h0]at h⊢;cases ha:allGo 512 [] (splitR s).1 with
  |ok x r=>exact ⟨r,rfl⟩
  |bad e r=>
   rw[ha]at h;exact absurd h (allGo_bad _ _ _ _ _ ha).2
 ·rw[textP_bad h0]at h;exact absurd h h0
theorem takeWhile_sp {p:UInt8→Bool} (h:p 32=false) (r b:List UInt8):(r++32::b).takeWhile p=r.takeWhile p:=by
 induction r with
 |nil=>rw[List.nil_append,List.takeWhile_cons,if_neg (by simp[h])];rfl
 |cons c r ih=>
  rw[List.cons_append,List.takeWhile_cons,List.takeWhile_cons,ih]
theorem wordL_sp {l:List UInt8} (hl:l≠[]) (b:List UInt8):wordL (l++32::b)=wordL l:=by
 cases l with
 |nil=>exact absurd rfl hl
 |cons c r=>
  rw[List.cons_append];unfold wordL;dsimp only;rw[takeWhile_sp (p:=isWord) (by decide),takeWhile_sp (p:=isDigit) (by decide)];cases r with
  |nil=>
   have h1:((([]++32::b:List UInt8).head?.map isDigit)=some true)=False:=by simp;decide
   have h2:((([]++32::b:List UInt8).head? =some 58)=False):=by simp
   have h3:((([]++32::b:List UInt8).head? =some 46)=False):=by simp
   simp only[h1,h2,h3,and_false,or_false,if_false];simp
  |cons d r=>rfl
theorem takeWhile_len_take (p:UInt8→Bool) (r:List UInt8):(r.take (r.takeWhile p).length).takeWhile p=r.takeWhile p∧r.take (r.takeWhile p).length=r.takeWhile p:=by
 induction r with
 |nil=>exact ⟨rfl,rfl⟩
 |cons c r ih=>
  rw[List.takeWhile_cons];split
  ·rename_i h;rw[List.length_cons,List.take_succ_cons,List.takeWhile_cons,if_pos h,ih.1];exact ⟨rfl,by rw[ih.2]⟩
  ·exact ⟨rfl,rfl⟩
theorem head_take (r:List UInt8) (k:Nat):(r.take (k+1)).head? =r.head? :=by cases r<;>rfl
theorem takeWhile_pos {p:UInt8→Bool} {r:List UInt8} (h:(r.head?.map p)=some true):∃k,(r.takeWhile p).length=k+1:=by
 cases r with
 |nil=>cases h
 |cons c r=>
  have hc:p c=true:=by simpa using h
  rw[List.takeWhile_cons,if_pos hc];exact ⟨_,rfl⟩
theorem wordL_take (l:List UInt8):wordL (l.take (wordL l).2)=wordL l:=by
 cases l with
 |nil=>rfl
 |cons c r=>
  have e1:∀k,List.take (1+k) (c::r)=c::r.take k:=fun k=>by rw[Nat.add_comm,List.take_succ_cons]
  by_cases h1:isLetter c=true
  ·have h:wordL (c::r)=(1,1+(r.takeWhile isWord).length):=by unfold wordL;dsimp only;rw[if_pos h1]
   rw[h,e1];unfold wordL;dsimp only;rw[if_pos h1,(takeWhile_len_take isWord r).1]
  ·by_cases h2:isDigit c=true
   ·have h:wordL (c::r)=(2,1+(r.takeWhile isDigit).length):=by unfold wordL;dsimp only;rw[if_neg h1,if_pos h2]
    rw[h,e1];unfold wordL;dsimp only;rw[if_neg h1,if_pos h2,(takeWhile_len_take isDigit r).1]
   ·by_cases h3:c=45∧(r.head?.map isDigit)=some true
    ·have h:wordL (c::r)=(2,1+(r.takeWhile isDigit).length):=by unfold wordL;dsimp only;rw[if_neg h1,if_neg h2,if_pos h3]
     rw[h,e1];unfold wordL;dsimp only;obtain ⟨k,hk⟩:=takeWhile_pos h3.2;rw[if_neg h1,if_neg h2,if_pos ⟨h3.1,by rw[hk,head_take];exact h3.2⟩,(takeWhile_len_take isDigit r).1]
    ·by_cases h4:(c=58∧r.head? =some 58)∨(c=46∧r.head? =some 46)
     ·have h:wordL (c::r)=(3,2):=by unfold wordL;dsimp only;rw[if_neg h1,if_neg h2,if_neg h3,if_pos h4]
      rw[h];rw[show List.take 2 (c::r)=c::r.take 1 from rfl];unfold wordL;dsimp only;rw[if_neg h1,if_neg h2,if_neg (by rw[head_take];exact h3),if_pos (by rw[head_take];exact h4)]
     ·by_cases h5:isSign c=true
      ·have h:wordL (c::r)=(3,1):=by unfold wordL;dsimp only;rw[if_neg h1,if_neg h2,if_neg h3,if_neg h4,if_pos h5]
       rw[h];rw[show List.take 1 (c::r)=[c] from rfl];unfold wordL;dsimp only;rw[if_neg h1,if_neg h2,if_neg (by rintro ⟨_,h⟩;cases h),if_neg (by rintro (⟨_,h⟩|⟨_,h⟩)<;>cases h),if_pos h5]
      ·have h:wordL (c::r)=(0,0):=by unfold wordL;dsimp only;rw[if_neg h1,if_neg h2,if_neg h3,if_neg h4,if_neg h5]
       rw[h];rfl
def Alone (x:Int×List UInt8×Int):Prop:=wordL x.2.1=(x.1,x.2.1.length)∧x.1≠0∧valL x.1 x.2.1=some x.2.2
theorem toks_alone:∀(k:Nat) (l:List UInt8),l.length≤k→∀ts,toks l=some ts→∀x∈ts,Alone x:=by
 intro k;induction k with
 |zero=>
  intro l hl ts h;obtain rfl:l=[]:=List.length_eq_zero_iff.1 (by omega);rw[toks_nil]at h;obtain rfl:=Option.some.inj h;intro x hx;cases hx
 |succ k ih=>
  intro l hl ts h;by_cases h0:l=[]
  ·subst h0;rw[toks_nil]at h;obtain rfl:=Option.some.inj h;intro x hx;cases hx
  ·rw[toks_cons h0]at h;by_cases hw:(wordL l).1=0
   ·rw[if_pos hw]at h;cases h
   ·rw[if_neg hw]at h;have h1:=wordL_pos hw;have h2:=blankL_le (l.drop (wordL l).2);rw[List.length_drop]at h2;cases hv:valL (wordL l).1 (l.take (wordL l).2) with
    |none=>rw[hv]at h;cases h
    |some v=>
     rw[hv,Option.bind_some]at h;cases hq:toks (blankL (l.drop (wordL l).2)) with
     |none=>rw[hq]at h;cases h
     |some ts'=>
      rw[hq]at h;obtain rfl:=Option.some.inj h;intro x hx;rcases List.mem_cons.1 hx with rfl|hx
      ·refine ⟨?_,hw,hv⟩;show wordL (l.take (wordL l).2)=_;rw[wordL_take,List.length_take,Nat.min_eq_left h1.2]
      ·exact ih _ (by omega) _ hq x hx
theorem alone_blank {x:Int×List UInt8×Int} (h:Alone x) (b:List UInt8):x.2.1≠[]∧blankL (x.2.1++b)=x.2.1++b:=by
 obtain ⟨h1,h2,_⟩:=h;have h3:(wordL x.2.1).1≠0:=by rw[h1];exact h2
 cases ht:x.2.1 with
 |nil=>rw[ht]at h3;exact absurd rfl h3
 |cons c r=>
  rw[ht]at h3;refine ⟨by simp,?_⟩;rw[List.cons_append];have hb:¬isWs c=true∧c≠37:=by
   refine ⟨fun hw=>h3 ?_,fun hc=>h3 ?_⟩
   ·have hc:c=32∨c=9∨c=13∨c=10:=by simpa[isWs,or_assoc]using hw
    rcases hc with rfl|rfl|rfl|rfl<;>(unfold wordL;dsimp only;rw[if_neg (by decide),if_neg (by decide),if_neg (by rintro ⟨h,_⟩;exact absurd h (by decide)),if_neg (by rintro (⟨h,_⟩|⟨h,_⟩)<;>exact absurd h (by decide)),if_neg (by decide)])
   ·subst hc;unfold wordL;dsimp only;rw[if_neg (by decide),if_neg (by decide),if_neg (by rintro ⟨h,_⟩;exact absurd h (by decide)),if_neg (by rintro (⟨h,_⟩|⟨h,_⟩)<;>exact absurd h (by decide)),if_neg (by decide)]
  exact blankL_no (by simpa using hb.1) hb.2
theorem blank_sp (b:List UInt8):blankL (32::b)=blankL b:=blankL_ws (by decide)
end Go.Proofs.YtjlhjabgclflcaaGreatDoor
set_option linter.unusedSimpArgs false
set_option linter.unusedVariables false
namespace Go.Proofs.YtjlhjabgclflcaaGreatDoor
theorem ofNat_dig {d:Nat} (h:d<10):(UInt8.ofNat (48+d)).toNat=48+d:=by
 rw[UInt8.toNat_ofNat'];exact Nat.mod_eq_of_lt (by omega)
theorem dec_digit:∀(n u:Nat),u≤n→∀c∈Lib.decDigits u,isDigit c=true:=by
 intro n;induction n with
 |zero=>
  intro u hu c hc;obtain rfl:u=0:=by omega
  rw[Lib.decDigits,dif_pos (by omega)]at hc;rw[List.mem_singleton.1 hc];decide
 |succ n ih=>
  intro u hu c hc;have one:∀d,d<10→isDigit (UInt8.ofNat (48+d))=true:=fun d hd=>by
   unfold isDigit;rw[ofNat_dig hd];simp;omega
  by_cases h:u<10
  ·rw[Lib.decDigits,dif_pos h]at hc;rw[List.mem_singleton.1 hc];exact one u h
  ·rw[Lib.decDigits,dif_neg h]at hc;rcases List.mem_append.1 hc with hc|hc
   ·exact ih (u/10) (by omega) c hc
   ·rw[List.mem_singleton.1 hc];exact one _ (Nat.mod_lt _ (by omega))
theorem dec_ne (u:Nat):Lib.decDigits u≠[]:=by
 rw[Lib.decDigits];split
 ·simp
 ·simp
theorem uint_snoc (M:Nat) (c:UInt8):∀(l:List UInt8) (acc:Nat) {u:Nat},Lib.parseUintM M acc l= .ok u→Lib.parseUintM M acc (l++[c])=Lib.parseUintM M u [c]:=by
 intro l;induction l with
 |nil=>
  intro acc u h;unfold Lib.parseUintM at h;injection h with h;subst h;rfl
 |cons x r ih=>
  intro acc u h;rw[List.cons_append];unfold Lib.parseUintM at h;split at h
  ·rename_i h1;split at h
   ·cases h
   ·rename_i h2;split at h
    ·cases h
    ·rename_i h3;rw[←ih _ h];exact (if_pos h1).trans ((if_neg h2).trans (if_neg h3))
  ·cases h
theorem uint_one {u:Nat} (h:u<10):Lib.parseUintM 18446744073709551615 0 (Lib.decDigits u)= .ok u:=by
 rw[Lib.decDigits,dif_pos h];unfold Lib.parseUintM;rw[ofNat_dig h,if_pos (by omega),if_neg (by omega),if_neg (by omega)];unfold Lib.parseUintM;congr 1;omega
theorem uint_dec:∀(n u:Nat),u≤n→u<18446744073709551616→Lib.parseUintM 18446744073709551615 0 (Lib.decDigits u)= .ok u:=by
 intro n;induction n with
 |zero=>
  intro u hu _;exact uint_one (by omega)
 |succ n ih=>
  intro u hu hM;by_cases h:u<10
  ·exact uint_one h
  ·rw[Lib.decDigits,dif_neg h,uint_snoc _ _ _ _ (ih (u/10) (by omega) (by omega))];have hd:u%10<10:=Nat.mod_lt _ (by omega);unfold Lib.parseUintM;rw[ofNat_dig hd,if_pos (by omega),if_neg (by omega),if_neg (by omega)];unfold Lib.parseUintM;congr 1;omega
theorem dec_head (u:Nat):∃c r,Lib.decDigits u=c::r∧isDigit c=true:=by
 cases h:Lib.decDigits u with
 |nil=>exact absurd h (dec_ne u)
 |cons c r=>exact ⟨c,r,rfl,dec_digit u u (Nat.le_refl _) c (by rw[h];exact List.mem_cons_self)⟩
theorem digit_not {c:UInt8} (h:isDigit c=true):c.toNat≠43∧c.toNat≠45:=by
 unfold isDigit at h;simp at h;omega
theorem itoa_back (n:Int) (h0: -9223372036854775808≤n) (h1:n≤9223372036854775807):Lib.parseIntB 64 (Lib.itoa n)= .ok n:=by
 by_cases h:n<0
 ·have hu:n.natAbs<18446744073709551616:=by omega
  obtain ⟨c,r,hc,hd⟩:=dec_head n.natAbs;have e:Lib.itoa n=45::Lib.decDigits n.natAbs:=by unfold Lib.itoa;rw[if_pos h]
  have hb:Lib.parseUintB 64 (Lib.decDigits n.natAbs)= .ok n.natAbs:=by
   unfold Lib.parseUintB;rw[if_neg (dec_ne _)];exact uint_dec _ _ (Nat.le_refl _) hu
  rw[e];unfold Lib.parseIntB;dsimp only;have h45:(45:UInt8).toNat=45:=rfl;rw[if_pos (Or.inr h45),hb];dsimp only;rw[if_neg (by rintro ⟨h,_⟩;exact h h45),if_neg (by rintro ⟨_,h⟩;simp at h;omega),if_pos h45];congr 1;omega
 ·have hu:n.toNat<18446744073709551616:=by omega
  obtain ⟨c,r,hc,hd⟩:=dec_head n.toNat;obtain ⟨n1,n2⟩:=digit_not hd;have e:Lib.itoa n=Lib.decDigits n.toNat:=by unfold Lib.itoa;rw[if_neg h]
  have hb:Lib.parseUintB 64 (Lib.decDigits n.toNat)= .ok n.toNat:=by
   unfold Lib.parseUintB;rw[if_neg (dec_ne _)];exact uint_dec _ _ (Nat.le_refl _) hu
  rw[e];rw[hc]at hb⊢;unfold Lib.parseIntB;dsimp only;rw[if_neg (by omega),hb];dsimp only;rw[if_neg (by rintro ⟨_,h⟩;simp at h;omega),if_neg (by rintro ⟨h,_⟩;exact n2 h),if_neg n2];congr 1;omega
theorem takeWhile_allV {p:UInt8→Bool} {l:List UInt8} (h:∀c∈l,p c=true):l.takeWhile p=l:=by
 induction l with
 |nil=>rfl
 |cons c r ih=>rw[List.takeWhile_cons,if_pos (h c List.mem_cons_self),ih fun x hx=>h x (List.mem_cons_of_mem _ hx)]
theorem itoa_alone (n:Int) (h0: -9223372036854775808≤n) (h1:n≤9223372036854775807):Alone (2,Lib.itoa n,n):=by
 refine ⟨?_,(show (2:Int)≠0 by decide),by unfold valL;rw[if_pos rfl,itoa_back n h0 h1]⟩;dsimp only;by_cases h:n<0
 ·have e:Lib.itoa n=45::Lib.decDigits n.natAbs:=by unfold Lib.itoa;rw[if_pos h]
  obtain ⟨c,r,hc,hd⟩:=dec_head n.natAbs;rw[e];unfold wordL;dsimp only;rw[if_neg (by decide),if_neg (by decide),if_pos ⟨rfl,by rw[hc];simp[hd]⟩,takeWhile_allV (dec_digit _ _ (Nat.le_refl _)),List.length_cons,Nat.add_comm]
 ·have e:Lib.itoa n=Lib.decDigits n.toNat:=by unfold Lib.itoa;rw[if_neg h]
  obtain ⟨c,r,hc,hd⟩:=dec_head n.toNat;have ha:=dec_digit _ n.toNat (Nat.le_refl _);rw[e];rw[hc]at ha⊢;have hl:isLetter c=false:=by
   unfold isDigit at hd;unfold isLetter;simp at hd⊢;refine ⟨⟨?_,?_⟩,?_⟩
   ·rintro rfl;exact absurd hd.2 (by decide)
   ·omega
   ·omega
  unfold wordL;dsimp only;rw[if_neg (by rw[hl];decide),if_pos hd,takeWhile_allV fun x hx=>ha x (List.mem_cons_of_mem _ hx),List.length_cons,Nat.add_comm]
abbrev T3:=Int×List UInt8×Int
theorem takeWhile_stop {p:UInt8→Bool} {c:UInt8} (h:p c=false) (r b:List UInt8):(r++c::b).takeWhile p=r.takeWhile p:=by
 induction r with
 |nil=>rw[List.nil_append,List.takeWhile_cons,if_neg (by simp[h])];rfl
 |cons x r ih=>rw[List.cons_append,List.takeWhile_cons,List.takeWhile_cons,ih]
def glue (x:T3) (c:UInt8):Prop:=(x.1=1→isWord c=false)∧(x.1=2→isDigit c=false)∧(x.2.1=[58]→c≠58)
theorem wordL_glue {x:T3} (h:Alone x) {c:UInt8} (g:glue x c) (b:List UInt8):wordL (x.2.1++c::b)=wordL x.2.1:=by
 obtain ⟨k,t,v⟩:=x;obtain ⟨h1,h2,_⟩:=h;obtain ⟨g1,g2,g3⟩:=g;dsimp only at*;cases t with
 |nil=>
  unfold wordL at h1;injection h1 with e _;exact absurd e.symm h2
 |cons x r=>
  rw[List.cons_append];unfold wordL at h1⊢;dsimp only at h1⊢;by_cases c1:isLetter x=true
  ·rw[if_pos c1]at h1⊢;rw[if_pos c1];injection h1 with e _;rw[takeWhile_stop (g1 e.symm)]
  ·rw[if_neg c1]at h1⊢;rw[if_neg c1];by_cases c2:isDigit x=true
   ·rw[if_pos c2]at h1⊢;rw[if_pos c2];injection h1 with e _;rw[takeWhile_stop (g2 e.symm)]
   ·rw[if_neg c2]at h1⊢;rw[if_neg c2];cases r with
    |nil=>
     rw[if_neg (by rintro ⟨_,h⟩;simp at h),if_neg (by rintro (⟨_,h⟩|⟨_,h⟩)<;>simp at h)]at h1;rw[List.nil_append];have hs:isSign x=true:=by
      cases hq:isSign x with
      |true=>rfl
      |false=>
       rw[if_neg (by rw[hq];decide)]at h1;injection h1 with e _;exact absurd e.symm h2
     have n45:x≠45:=by rintro rfl;exact absurd hs (by decide)
     have n46:x≠46:=by rintro rfl;exact absurd hs (by decide)
     have hL1:¬(x=45∧((c::b).head?.map isDigit)=some true):=fun h=>n45 h.1;have hR1:¬(x=45∧(([]:List UInt8).head?.map isDigit)=some true):=fun h=>n45 h.1;have hL2:¬((x=58∧(c::b).head? =some 58)∨(x=46∧(c::b).head? =some 46)):=fun h=>by
      rcases h with ⟨h,h'⟩|⟨h,_⟩
      ·subst h;exact g3 rfl (by simpa using h')
      ·exact n46 h
     have hR2:¬((x=58∧([]:List UInt8).head? =some 58)∨(x=46∧([]:List UInt8).head? =some 46)):=fun h=>by
      rcases h with ⟨_,h⟩|⟨_,h⟩
      ·simp at h
      ·simp at h
     rw[if_neg hL1,if_neg hL2,if_neg hR1,if_neg hR2]
    |cons d r=>
     rw[List.cons_append];by_cases c3:x=45∧((d::r).head?.map isDigit)=some true
     ·rw[if_pos c3]at h1;rw[if_pos (show x=45∧((d::(r++c::b)).head?.map isDigit)=some true from c3),if_pos c3];injection h1 with e _;rw[←List.cons_append,takeWhile_stop (g2 e.symm)]
     ·rw[if_neg c3]at h1;rw[if_neg (show ¬(x=45∧((d::(r++c::b)).head?.map isDigit)=some true) from c3),if_neg c3];rfl
inductive Sp:List UInt8→List T3→Prop
 |nil:Sp [] []
 |no {x:T3} {s:List UInt8} {ts:List T3} (h:Alone x) (g:∀c r,s=c::r→glue x c) (t:Sp s ts):Sp (x.2.1++s) (x::ts)
 |sp {x:T3} {s:List UInt8} {ts:List T3} (h:Alone x) (t:Sp s ts):Sp (x.2.1++32::s) (x::ts)
 |lf {x:T3} {s:List UInt8} {ts:List T3} (h:Alone x) (t:Sp s ts):Sp (x.2.1++10::s) (x::ts)
theorem Sp.toks {s:List UInt8} {ts:List T3} (h:Sp s ts):blankL s=s∧YtjlhjabgclflcaaGreatDoor.toks s=some ts:=by
 induction h with
 |nil=>exact ⟨blankL_nil,toks_nil⟩
 | @no x s ts h g t ih=>
  obtain ⟨h1,h2⟩:=alone_blank h s;refine ⟨h2,?_⟩;have hw:wordL (x.2.1++s)=wordL x.2.1:=by
   cases s with
   |nil=>rw[List.append_nil]
   |cons c r=>exact wordL_glue h (g c r rfl) r
  obtain ⟨h3,h4,h5⟩:=h;rw[toks_cons (by simp[h1]),hw,h3,if_neg h4];dsimp only;rw[List.take_left,h5,List.drop_left,ih.1,ih.2];rfl
 | @sp x s ts h t ih=>
  obtain ⟨h1,h2⟩:=alone_blank h (32::s);refine ⟨h2,?_⟩;obtain ⟨h3,h4,h5⟩:=h;rw[toks_cons (by simp[h1]),wordL_sp h1,h3,if_neg h4];dsimp only;rw[List.take_left,h5,List.drop_left,blank_sp,ih.1,ih.2];rfl
 | @lf x s ts h t ih=>
  obtain ⟨h1,h2⟩:=alone_blank h (10::s);refine ⟨h2,?_⟩;obtain ⟨h3,h4,h5⟩:=h;rw[toks_cons (by simp[h1]),wordL_lf h1,h3,if_neg h4];dsimp only;rw[List.take_left,h5,List.drop_left,blank_lf,ih.1,ih.2];rfl
end Go.Proofs.YtjlhjabgclflcaaGreatDoor

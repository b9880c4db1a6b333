import Derived.Test.YtjlhjabgclflcaaGreatDoorPa
set_option linter.unusedSimpArgs false
set_option linter.unusedVariables false
namespace Go.Proofs.YtjlhjabgclflcaaGreatDoor
def semi:List UInt8:=[59]
def WT (l:List Tok):Prop:=∀t∈l,t.t≠[]∧(t.t=semi→t.k=3)
def wt (l:List Tok):Nat:=(l.map (·.t.length)).sum
theorem wt_append (a b:List Tok):wt (a++b)=wt a+wt b:=by unfold wt;rw[List.map_append,List.sum_append]
theorem wt_cons (t:Tok) (l:List Tok):wt (t::l)=t.t.length+wt l:=rfl
def Al {α:Type}:PR α→PR α→Prop
 | .ok x r,.ok y s=>x=y∧r.map stripT=s.map stripT
 | .bad e r,.bad d s=>e=d∧r.map stripT=s.map stripT
 |_,_=>False
structure Nice {α:Type} (k:Nat) (f:Pm α):Prop where
 suf:∀l x r,f l= .ok x r→∃c,l=c++r
 run:∀l,WT l→∀x r,f l= .ok x r→(∃c,l=c++r∧(∀t∈c,t.t≠semi)∧k≤wt c)∧(r≠[]→∀m,f (l++m)= .ok x (r++m))
 bad:∀l e r,f l= .bad e r→(∃c,l=c++r)∧e≠0
 alike:∀l m,l.map stripT=m.map stripT→Al (f l) (f m)
theorem WT.right {c r:List Tok} (h:WT (c++r)):WT r:=fun t ht=>h t (List.mem_append_right _ ht)
theorem Nice.mono {α:Type} {f:Pm α} {k k':Nat} (h:Nice k f) (hk:k'≤k):Nice k' f:=
 ⟨h.suf,fun l hl x r e=>by
  obtain ⟨⟨c,h1,h2,h3⟩,h4⟩:=h.run l hl x r e;exact ⟨⟨c,h1,h2,by omega⟩,h4⟩,h.bad,h.alike⟩
theorem nice_ret {α:Type} (x:α):Nice 0 (pret x):=
 ⟨fun l y r h=>(by
  injection h with h1 h2;exact ⟨[],h2⟩),fun l _ y r h=>by
  injection h with h1 h2;subst h1 h2;exact ⟨⟨[],rfl,(fun t ht=>absurd ht List.not_mem_nil),Nat.zero_le _⟩,fun _ m=>rfl⟩,fun l e r h=>(by cases h),fun l m h=>⟨rfl,h⟩⟩
theorem errP_alike {l m:List Tok} (h:l.map stripT=m.map stripT):errP l=errP m:=by
 cases l<;>cases m<;>first|rfl|cases h
theorem errP_ne (l:List Tok):errP l≠0:=by cases l<;>simp[errP]
theorem nice_wrong {α:Type} (k:Nat):Nice k (wrongP:Pm α):=
 ⟨fun l y r h=>(by cases h),fun l _ y r h=>(by cases h),fun l e r h=>(by
  injection h with h1 h2;subst h1 h2;exact ⟨⟨[],rfl⟩,errP_ne _⟩),fun l m h=>⟨errP_alike h,h⟩⟩
theorem nice_big {α:Type} (k:Nat):Nice k (fun l=>(.bad 3 l:PR α)):=
 ⟨fun l y r h=>(by cases h),fun l _ y r h=>(by cases h),fun l e r h=>(by
  injection h with h1 h2;subst h1 h2;exact ⟨⟨[],rfl⟩,by decide⟩),fun l m h=>⟨rfl,h⟩⟩
theorem nice_bind {α β:Type} {i j:Nat} {f:Pm α} {g:α→Pm β} (hf:Nice i f) (hg:∀x,Nice j (g x)):Nice (i+j) (pbind f g):=by
 refine ⟨fun l y r h=> ?_,fun l hl y r h=> ?_,fun l e r h=> ?_,fun l m h=> ?_⟩
 ·unfold pbind at h;cases hx:f l with
  |bad e s=>rw[hx]at h;cases h
  |ok x s=>
   rw[hx]at h;obtain ⟨c,h1⟩:=hf.suf l x s hx;obtain ⟨d,h2⟩:=(hg x).suf s y r h;exact ⟨c++d,by rw[h1,h2,List.append_assoc]⟩
 ·unfold pbind at h;cases hx:f l with
  |bad e s=>rw[hx]at h;cases h
  |ok x s=>
   rw[hx]at h;obtain ⟨⟨c,h1,h2,h3⟩,h4⟩:=hf.run l hl x s hx;subst h1;obtain ⟨⟨d,k1,k2,k3⟩,k4⟩:=(hg x).run s hl.right y r h;subst k1;refine ⟨⟨c++d,by rw[List.append_assoc],fun t ht=> ?_,by rw[wt_append];omega⟩,fun hr m=> ?_⟩
   ·rcases List.mem_append.1 ht with ht|ht
    ·exact h2 t ht
    ·exact k2 t ht
   ·unfold pbind;rw[h4 (by simp[hr]) m];exact k4 hr m
 ·unfold pbind at h;cases hx:f l with
  |bad e' s=>
   rw[hx]at h;injection h with h1 h2;subst h1 h2;exact hf.bad l _ _ hx
  |ok x s=>
   rw[hx]at h;obtain ⟨c,h1⟩:=hf.suf l x s hx;obtain ⟨⟨d,k1⟩,k2⟩:=(hg x).bad s e r h;exact ⟨⟨c++d,by rw[h1,k1,List.append_assoc]⟩,k2⟩
 ·have h1:=hf.alike l m h;unfold pbind;cases hx:f l with
  |bad e s=>
   cases hy:f m with
   |bad e' s'=>rw[hx,hy]at h1;exact h1
   |ok y s'=>rw[hx,hy]at h1;exact h1.elim
  |ok x s=>
   cases hy:f m with
   |bad e' s'=>rw[hx,hy]at h1;exact h1.elim
   |ok y s'=>
    rw[hx,hy]at h1;obtain ⟨rfl,h2⟩:=h1;exact (hg x).alike s s' h2
def oneP {α:Type} (p:Tok→Bool) (v:Tok→α) (f:Pm α):Pm α:=fun l=>match l with
 |[]=>f []
 |t::r=>if p t then .ok (v t) r else f (t::r)
theorem nice_one {α:Type} {k:Nat} {p:Tok→Bool} {v:Tok→α} {f:Pm α} (hf:Nice k f) (hp:∀t,t.t≠[]→(t.t=semi→t.k=3)→p t=true→t.t≠semi∧k≤t.t.length) (hs:∀a b:Tok,stripT a=stripT b→p a=p b∧(p a=true→v a=v b)):Nice k (oneP p v f):=by
 refine ⟨fun l y r h=> ?_,fun l hl y r h=> ?_,fun l e r h=> ?_,fun l m h=> ?_⟩
 ·cases l with
  |nil=>exact hf.suf _ _ _ h
  |cons t l=>
   unfold oneP at h;dsimp only at h;split at h
   ·injection h with h1 h2;exact ⟨[t],by rw[h2];rfl⟩
   ·exact hf.suf _ _ _ h
 ·cases l with
  |nil=>
   obtain ⟨h1,h2⟩:=hf.run _ hl _ _ h;refine ⟨h1,fun hr m=> ?_⟩;obtain ⟨c,hc⟩:=hf.suf _ _ _ h;simp at hc;exact absurd hc.2 hr
  |cons t l=>
   unfold oneP at h;dsimp only at h;split at h
   ·rename_i ht;injection h with h1 h2;subst h1 h2;obtain ⟨w1,w2⟩:=hl t List.mem_cons_self;obtain ⟨h3,h4⟩:=hp t w1 w2 ht;refine ⟨⟨[t],rfl,fun u hu=> ?_,?_⟩,fun _ m=> ?_⟩
    ·obtain rfl:=List.mem_singleton.1 hu;exact h3
    ·rw[wt_cons];exact Nat.le_trans h4 (Nat.le_add_right _ _)
    ·rw[List.cons_append];unfold oneP;dsimp only;rw[if_pos ht]
   ·rename_i ht;obtain ⟨h1,h2⟩:=hf.run _ hl _ _ h;refine ⟨h1,fun hr m=> ?_⟩;have:=h2 hr m;rw[List.cons_append]at this⊢;unfold oneP;dsimp only;rw[if_neg ht];exact this
 ·cases l with
  |nil=>exact hf.bad _ _ _ h
  |cons t l=>
   unfold oneP at h;dsimp only at h;split at h
   ·cases h
   ·exact hf.bad _ _ _ h
 ·cases l with
  |nil=>
   cases m with
   |nil=>exact hf.alike _ _ rfl
   |cons u m=>cases h
  |cons t l=>
   cases m with
   |nil=>cases h
   |cons u m=>
    obtain ⟨h1,h2⟩:=List.cons.inj h;obtain ⟨h3,h4⟩:=hs t u h1;unfold oneP;dsimp only;rw[←h3];split
    ·rename_i ht;exact ⟨h4 ht,h2⟩
    ·exact hf.alike _ _ h
theorem strip_eq {a b:Tok} (h:stripT a=stripT b):a.k=b.k∧a.t=b.t∧a.v=b.v:=by
 unfold stripT at h;simp only[Prod.mk.injEq]at h;exact ⟨h.1,h.2.1,h.2.2⟩
theorem nice_if {α:Type} {k:Nat} {f g:Pm α} {b:Bool} (hf:b=true→Nice k f) (hg:b=false→Nice k g):Nice k (if b then f else g):=by
 cases b
 ·exact hg rfl
 ·exact hf rfl
theorem may_one (s:List UInt8):mayP s=oneP (fun t=>t.t==s) (fun _=>true) (pret false):=by
 funext l;cases l<;>rfl
theorem take_one (s:List UInt8):takeP s=oneP (fun t=>t.t==s) (fun _=>()) wrongP:=by
 funext l;cases l<;>rfl
theorem nice_may {s:List UInt8} (hs:s≠semi):Nice 0 (mayP s):=by
 rw[may_one];refine nice_one (nice_ret _) (fun t _ _ h=>⟨fun e=>hs ?_,Nat.zero_le _⟩) (fun a b h=> ?_)
 ·rw[←e];exact (eq_of_beq h).symm
 ·obtain ⟨_,h2,_⟩:=strip_eq h;exact ⟨by rw[h2],fun _=>rfl⟩
theorem nice_take {s:List UInt8} (hs:s≠semi):Nice s.length (takeP s):=by
 rw[take_one];refine nice_one (nice_wrong _) (fun t _ _ h=>⟨fun e=>hs ?_,?_⟩) (fun a b h=> ?_)
 ·rw[←e];exact (eq_of_beq h).symm
 ·rw[show t.t=s from eq_of_beq h];exact Nat.le_refl _
 ·obtain ⟨_,h2,_⟩:=strip_eq h;exact ⟨by rw[h2],fun _=>rfl⟩
theorem nice_takes:∀(ss:List (List UInt8)),(∀s∈ss,s≠semi)→Nice (ss.map List.length).sum (takesP ss)
 |[],_=>nice_ret _
 |s::r,h=>nice_bind (nice_take (h s List.mem_cons_self)) fun _=>nice_takes r fun x hx=>h x (List.mem_cons_of_mem _ hx)
def kindT (t:Tok):Int:=if t.k=1∧wordP t.t=true then 0 else t.k
theorem kindT_alike {a b:Tok} (h:stripT a=stripT b):kindT a=kindT b:=by
 obtain ⟨h1,h2,_⟩:=strip_eq h;unfold kindT;rw[h1,h2]
theorem kind_semi {t:Tok} {k:Int} (h0:t.t≠[]) (h:t.t=semi→t.k=3) (hk:kindT t=k) (h1:k=1∨k=2):t.t≠semi∧1≤t.t.length:=by
 refine ⟨fun e=> ?_,List.length_pos_iff.2 h0⟩;have:=h e;unfold kindT at hk;rw[if_neg (by rw[this];rintro ⟨h,_⟩;cases h),this]at hk;omega
theorem name_one:nameP=oneP (fun t=>decide (kindT t=1)) (·.t) wrongP:=by
 funext l;cases l with
 |nil=>rfl
 |cons t l=>
  show (if kindT t=1 then PR.ok t.t l else wrongP (t::l))=_;by_cases h:kindT t=1<;>simp[oneP,h]
theorem number_one:numberP=oneP (fun t=>decide (kindT t=2)) (·.v) wrongP:=by
 funext l;cases l with
 |nil=>rfl
 |cons t l=>
  show (if kindT t=2 then PR.ok t.v l else wrongP (t::l))=_;by_cases h:kindT t=2<;>simp[oneP,h]
theorem exact_one (n:Int):exactP n=oneP (fun t=>decide (kindT t=2∧t.v=n)) (fun _=>()) wrongP:=by
 funext l;cases l with
 |nil=>
  unfold exactP;rw[if_neg (by rintro ⟨h,_⟩;cases h)];rfl
 |cons t l=>
  show (if kindT t=2∧t.v=n then PR.ok () l else wrongP (t::l))=_;by_cases h:kindT t=2∧t.v=n<;>simp[oneP,h]
theorem nice_name:Nice 1 nameP:=by
 rw[name_one];refine nice_one (nice_wrong _) (fun t h0 h1 h=>kind_semi h0 h1 (of_decide_eq_true h) (Or.inl rfl)) (fun a b h=> ?_);obtain ⟨_,h2,_⟩:=strip_eq h;exact ⟨by rw[kindT_alike h],fun _=>h2⟩
theorem nice_number:Nice 1 numberP:=by
 rw[number_one];refine nice_one (nice_wrong _) (fun t h0 h1 h=>kind_semi h0 h1 (of_decide_eq_true h) (Or.inr rfl)) (fun a b h=> ?_);obtain ⟨_,_,h2⟩:=strip_eq h;exact ⟨by rw[kindT_alike h],fun _=>h2⟩
theorem nice_exact (n:Int):Nice 1 (exactP n):=by
 rw[exact_one];refine nice_one (nice_wrong _) (fun t h0 h1 h=>kind_semi h0 h1 (of_decide_eq_true h).1 (Or.inr rfl)) (fun a b h=> ?_);obtain ⟨_,_,h2⟩:=strip_eq h;exact ⟨by rw[kindT_alike h,h2],fun _=>rfl⟩
theorem plain_one:plainP=oneP (fun t=>decide (kindT t=2)) (fun t=>⟨1,t.v,[],[]⟩) (oneP (fun t=>decide (kindT t=1)) (fun t=>⟨3,0,t.t,[]⟩) (oneP (fun t=>t.t==wTrue) (fun _=>⟨2,1,[],[]⟩) (oneP (fun t=>t.t==wFalse) (fun _=>⟨2,0,[],[]⟩) wrongP))):=by
 funext l;cases l with
 |nil=>rfl
 |cons t l=>
  show (if kindT t=2 then PR.ok (⟨1,t.v,[],[]⟩:Ex) l else if kindT t=1 then PR.ok (⟨3,0,t.t,[]⟩:Ex) l else if (t.t==wTrue)=true then PR.ok (⟨2,1,[],[]⟩:Ex) l else if (t.t==wFalse)=true then PR.ok (⟨2,0,[],[]⟩:Ex) l else wrongP (t::l))=_;by_cases h1:kindT t=2
  ·simp[oneP,h1]
  ·by_cases h2:kindT t=1
   ·simp[oneP,h1,h2]
   ·simp only[oneP,h1,h2,decide_false,Bool.false_eq_true,if_false]
theorem nice_word {α:Type} {s:List UInt8} {v:α} {f:Pm α} (hs:s≠semi) (hl:1≤s.length) (hf:Nice 1 f):Nice 1 (oneP (fun t=>t.t==s) (fun _=>v) f):=by
 refine nice_one hf (fun t _ _ h=>⟨fun e=>hs ?_,?_⟩) (fun a b h=> ?_)
 ·rw[←e];exact (eq_of_beq h).symm
 ·rw[show t.t=s from eq_of_beq h];exact hl
 ·obtain ⟨_,h2,_⟩:=strip_eq h;exact ⟨by rw[h2],fun _=>rfl⟩
theorem nice_plain:Nice 1 plainP:=by
 rw[plain_one];refine nice_one (nice_one (nice_word (by decide) (by decide) (nice_word (by decide) (by decide) (nice_wrong _))) (fun t h0 h1 h=>kind_semi h0 h1 (of_decide_eq_true h) (Or.inl rfl)) (fun a b h=> ?_)) (fun t h0 h1 h=>kind_semi h0 h1 (of_decide_eq_true h) (Or.inr rfl)) (fun a b h=> ?_)
 ·obtain ⟨_,h2,_⟩:=strip_eq h;exact ⟨by rw[kindT_alike h],fun _=>by rw[h2]⟩
 ·obtain ⟨_,_,h2⟩:=strip_eq h;exact ⟨by rw[kindT_alike h],fun _=>by rw[h2]⟩
theorem nice_head {α:Type} {k:Nat} {p:List Tok→Bool} {f g:Pm α} (q:Tok→Bool) (hq:∀t l,p (t::l)=q t) (hs:∀a b,stripT a=stripT b→q a=q b) (hf:Nice k f) (hg:Nice k g):Nice k (fun l=>if p l then f l else g l):=by
 refine ⟨fun l y r h=> ?_,fun l hl y r h=> ?_,fun l e r h=> ?_,fun l m h=> ?_⟩
 ·try dsimp only at h
  split at h
  ·exact hf.suf _ _ _ h
  ·exact hg.suf _ _ _ h
 ·try dsimp only at h⊢
  have hext:r≠[]→∀m,p (l++m)=p l:=by
   intro hr m;cases l with
   |cons t l=>rw[List.cons_append,hq,hq]
   |nil=>
    exfalso;have:∃c,[]=c++r:=by
     split at h
     ·exact hf.suf _ _ _ h
     ·exact hg.suf _ _ _ h
    obtain ⟨c,hc⟩:=this;simp at hc;exact hr hc.2
  by_cases hp:p l=true
  ·rw[if_pos hp]at h;obtain ⟨h1,h2⟩:=hf.run _ hl _ _ h;exact ⟨h1,fun hr m=>by rw[hext hr,if_pos hp];exact h2 hr m⟩
  ·rw[if_neg hp]at h;obtain ⟨h1,h2⟩:=hg.run _ hl _ _ h;exact ⟨h1,fun hr m=>by rw[hext hr,if_neg hp];exact h2 hr m⟩
 ·try dsimp only at h
  split at h
  ·exact hf.bad _ _ _ h
  ·exact hg.bad _ _ _ h
 ·have:p l=p m:=by
   cases l with
   |nil=>cases m with
    |nil=>rfl
    |cons u m=>cases h
   |cons t l=>cases m with
    |nil=>cases h
    |cons u m=>
     obtain ⟨h1,_⟩:=List.cons.inj h
     rw[hq,hq,hs _ _ h1]
  try dsimp only
  rw[←this];split
  ·exact hf.alike _ _ h
  ·exact hg.alike _ _ h
theorem is_alike (s:List UInt8) (a b:Tok) (h:stripT a=stripT b):(a.t==s)=(b.t==s):=by rw[(strip_eq h).2.1]
theorem may_bind {α:Type} (s:List UInt8) (g:Bool→Pm α):pbind (mayP s) g=fun l=>if isP s l then pbind (takeP s) (fun _=>g true) l else g false l:=by
 funext l;unfold pbind mayP takeP;by_cases h:isP s l=true
 ·rw[if_pos h,if_pos h,if_pos h]
 ·rw[if_neg h,if_neg h]
theorem nice_mayb {α:Type} {k j:Nat} {s:List UInt8} {g:Bool→Pm α} (hs:s≠semi) (h1:Nice j (g true)) (h2:Nice k (g false)) (hk:k≤s.length+j):Nice k (pbind (mayP s) g):=by
 rw[may_bind];exact nice_head (fun t=>t.t==s) (fun t l=>rfl) (is_alike s) ((nice_bind (nice_take hs) fun _=>h1).mono hk) h2
theorem nice_exprsGo {en:List UInt8} {one:Pm Ex} (he:en≠semi) (h1:Nice 0 one):∀k acc,Nice 0 (exprsGo en one k acc)
 |0,_=>nice_big _
 |k+1,acc=>nice_bind (j:=0) h1 fun x=>nice_bind (j:=0) (nice_may he) fun b=>nice_if (fun _=>nice_ret _) fun _=>(nice_bind (i:=1) (j:=0) (nice_take (s:=[44]) (by decide)) fun _=>nice_exprsGo he h1 k _).mono (Nat.zero_le _)
theorem nice_exprs {en:List UInt8} {one:Pm Ex} (he:en≠semi) (h1:Nice 0 one):Nice 0 (exprsP en one):=
 nice_bind (j:=0) (nice_may he) fun b=>nice_if (fun _=>nice_ret _) fun _=>nice_exprsGo he h1 _ _
theorem nice_expr:Nice 0 exprP:=
 nice_bind (j:=0) (nice_may (by decide)) fun b=>nice_if (fun _=>nice_bind (j:=0) (nice_exprs (by decide) (nice_plain.mono (Nat.zero_le _))) fun _=>nice_ret _) fun _=>nice_plain.mono (Nat.zero_le _)
theorem nice_domGo:∀k acc,Nice 2 (domGo k acc)
 |0,_=>nice_big _
 |k+1,acc=>nice_bind (i:=1) (j:=1) nice_number fun x=>nice_mayb (k:=1) (s:=[125]) (j:=0) (by decide) (nice_ret _) ((nice_bind (i:=1) (j:=2) (nice_take (s:=[44]) (by decide)) fun _=>nice_domGo k _).mono (by decide)) (by decide)
theorem nice_dom:Nice 3 domP:=
 nice_mayb (by decide) (nice_ret _) (nice_mayb (by decide) (nice_bind (i:=2) (j:=0) (nice_domGo 256 []) fun _=>nice_ret _)
  ((nice_bind nice_number fun _=>nice_bind (nice_take (s:=[46,46]) (by decide)) fun _=>nice_bind nice_number fun _=>nice_ret _).mono (by decide)) (by decide)) (by decide)
theorem nice_variable:Nice 5 variableP:=
 (nice_bind nice_dom fun d=>nice_bind (nice_take (s:=[58]) (by decide)) fun _=>nice_bind nice_name fun _=>nice_bind (j:=0) (nice_may (by decide)) fun o=>
  nice_bind (i:=0) (j:=0) (nice_if (fun _=>(nice_take (by decide)).mono (Nat.zero_le _)) fun _=>nice_ret _) fun _=>
  nice_bind (j:=0) (nice_may (by decide)) fun v=>nice_if (fun _=>(nice_bind (j:=0) nice_plain fun _=>nice_ret _).mono (Nat.zero_le _)) fun _=>nice_ret _).mono (by decide)
theorem nice_truth:Nice 3 truthP:=
 nice_mayb (by decide) (nice_ret _) (nice_bind (nice_take (s:=wInt) (by decide)) fun _=>nice_ret _) (by decide)
theorem nice_array:Nice 2 arrayP:=
 (nice_bind (nice_take (s:=[91]) (by decide)) fun _=>nice_bind (j:=0) (nice_exact 1) fun _=>(nice_bind (j:=0) (nice_take (s:=[46,46]) (by decide)) fun _=>(nice_bind (j:=0) nice_number fun n=>
  (nice_bind (j:=0) (nice_takes [[93],wOf] (by decide)) fun _=>nice_bind (j:=0) (nice_may (by decide)) fun v=>(nice_bind (j:=0) nice_truth fun b=>(nice_bind (j:=0) (nice_take (s:=[58]) (by decide)) fun _=>(nice_bind (j:=0) nice_name fun nm=>
  nice_bind (i:=0) (j:=0) (nice_if (fun _=>nice_may (by decide)) fun _=>nice_ret _) fun o=>
  nice_bind (i:=0) (j:=0) (nice_if (fun _=>(nice_bind (j:=0) (nice_takes [wOutArray,[40],[91]] (by decide)) fun _=>(nice_bind (j:=0) (nice_exact 1) fun _=>(nice_bind (j:=0) (nice_take (s:=[46,46]) (by decide)) fun _=>(nice_bind (j:=0) (nice_exact n) fun _=>(nice_takes [[93],[41]] (by decide)).mono (Nat.zero_le _)).mono (Nat.zero_le _)).mono (Nat.zero_le _)).mono (Nat.zero_le _)).mono (Nat.zero_le _)) fun _=>nice_ret _) fun _=>
  (nice_bind (j:=0) (nice_takes [[61],[91]] (by decide)) fun _=>nice_bind (j:=0) (nice_exprs (by decide) (nice_plain.mono (Nat.zero_le _))) fun _=>nice_ret _).mono (Nat.zero_le _)).mono (Nat.zero_le _)).mono (Nat.zero_le _)).mono (Nat.zero_le _)).mono (Nat.zero_le _)).mono (Nat.zero_le _)).mono (Nat.zero_le _)).mono (by decide)
theorem fits_alike (b:Bool) (a c:Tok) (h:stripT a=stripT c):fitsP b [a]=fitsP b [c]:=by
 have h1:kindP [a]=kindP [c]:=kindT_alike h;have h2:∀s,isP s [a]=isP s [c]:=fun s=>is_alike s a c h;unfold fitsP;rw[h1,h2,h2]
theorem nice_par:Nice 7 parP:=
 (nice_bind nice_truth fun b=>nice_bind (nice_take (s:=[58]) (by decide)) fun _=>nice_bind nice_name fun nm=>nice_bind (nice_take (s:=[61]) (by decide)) fun _=>
  nice_head (fun t=>fitsP b [t]) (fun t l=>rfl) (fits_alike b) (nice_bind nice_plain fun x=>nice_ret _) (nice_wrong _)).mono (by decide)
theorem nice_goal:Nice 2 goalP:=
 nice_mayb (by decide) (nice_ret _) (nice_mayb (by decide) (nice_bind (j:=0) nice_name fun _=>nice_ret _) (nice_mayb (by decide) (nice_bind (j:=0) nice_name fun _=>nice_ret _) (nice_wrong _) (by decide)) (by decide)) (by decide)
theorem nice_item:Nice 7 itemP:=by
 refine nice_head (fun t=>t.t==wInt||t.t==wBool) (fun t l=>rfl) (fun a b h=>by rw[(strip_eq h).2.1]) nice_par ?_;refine nice_mayb (j:=4) (by decide) (nice_variable.mono (by decide)) ?_ (by decide);refine nice_mayb (j:=2) (by decide) nice_array ?_ (by decide);refine nice_mayb (j:=0) (by decide) ?_ ?_ (by decide)
 ·exact (nice_bind (j:=0) nice_name fun _=>(nice_bind (j:=0) (nice_take (s:=[40]) (by decide)) fun _=>nice_bind (j:=0) (nice_exprs (by decide) nice_expr) fun _=>nice_ret _).mono (Nat.zero_le _)).mono (Nat.zero_le _)
 ·exact nice_mayb (j:=2) (by decide) nice_goal (nice_wrong _) (by decide)
end Go.Proofs.YtjlhjabgclflcaaGreatDoor

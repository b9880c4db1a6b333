/-
  Joined texts: Za, Zb.
-/
import Derived.Test.YtjlhjabgclflcaaGreatDoorVx
import Derived.Lib.SplitLaws
import Derived.Lib.IndexLaws
set_option linter.unusedSimpArgs false
set_option linter.unusedVariables false
namespace Go.Proofs.YtjlhjabgclflcaaGreatDoor
open Go.RowKit Num Go.Joins
structure Ot where
 name:List UInt8
 bool:Bool
 arr:Bool
 x:List Int
def valO (a:List Int) (i:Int):Option Int:=if 0≤i then a[i.toNat]? else none
def valsO (a:List Int):List Int→Option (List Int)
 |[]=>some []
 |i::r=>(valO a i).bind fun v=>(valsO a r).map (v::·)
def ownO (a:List Int):List Ot→Option (List (List Int))
 |[]=>some []
 |o::r=>(valsO a o.x).bind fun v=>(ownO a r).map (v::·)
def solN (s:List UInt8):It:=⟨6,s,false,[],0,false,[],1⟩
def bitV (n:Int):Bool:=n==0||n==1
def mayS (o:Ot) (v:List Int):Bool:=okI (solN o.name)&&(decide (v.length≤64)&&((o.arr||v.length==1)&&(!o.bool||v.all bitV)))
def maysS:List Ot→List (List Int)→Bool
 |o::l,v::r=>mayS o v&&maysS l r
 |_,_=>true
def rightS (outs:List Ot) (a:List Int):Bool:=match ownO a outs with
 |none=>false
 |some vs=>decide (outs.length≤64)&&maysS outs vs
def wordV (b:Bool) (v:Int):List UInt8:=if b then (if v=1 then wTrue else wFalse) else Lib.itoa v
def wArr1:List UInt8:=[97,114,114,97,121,49,100,40,49,46,46]
def headS (o:Ot):List UInt8:=if o.arr then o.name++[32,61,32]++wArr1++Lib.itoa o.x.length++[44,32,91] else o.name++[32,61,32]
def tailS (o:Ot):List UInt8:=if o.arr then [93,41,59,10] else [59,10]
def lineS (o:Ot) (v:List Int):List UInt8:=headS o++Lib.join (v.map (wordV o.bool)) [44,32]++tailS o
def linesS:List Ot→List (List Int)→List UInt8
 |o::l,v::r=>lineS o v++linesS l r
 |_,_=>[]
def dashesS:List UInt8:=[45,45,45,45,45,45,45,45,45,45,10]
def equalsS:List UInt8:=[61,61,61,61,61,61,61,61,61,61,10]
def unsatS:List UInt8:=[61,61,61,61,61,85,78,83,65,84,73,83,70,73,65,66,76,69,61,61,61,61,61,10]
def unknownS:List UInt8:=[61,61,61,61,61,85,78,75,78,79,87,78,61,61,61,61,61,10]
def endS (k:Int):List UInt8:=if k=3 then dashesS++equalsS else dashesS
def replyT (outs:List Ot) (k:Int) (a:List Int):List UInt8×Int:=
 if k=1 then (unsatS,0) else if k=4 then (unknownS,0)
 else if k=2∨k=3 then (match ownO a outs with
  |none=>([],2)
  |some vs=>if (decide (outs.length≤64)&&maysS outs vs)=true then (linesS outs vs++endS k,0) else ([],2))
 else ([],2)
def valueW (b:Bool) (w:List UInt8):Option Int:=
 if b then (if w=wTrue then some 1 else if w=wFalse then some 0 else none) else match Lib.parseIntB 64 w with
  | .ok v=>if Lib.itoa v=w then some v else none
  |_=>none
def mapW (b:Bool):List (List UInt8)→Option (List Int)
 |[]=>some []
 |w::r=>(valueW b w).bind fun v=>(mapW b r).map (v::·)
def wordsS (o:Ot) (line:List UInt8):List (List UInt8):=if o.x=[]∧line=[] then [] else Lib.split line [44,32]
def readT (o:Ot) (s:List UInt8):Option (List Int×List UInt8):=
 if Lib.hasPrefix s (headS o)=true then
  (if 0≤Lib.index (s.drop (headS o).length) (tailS o) then
   (mapW o.bool (wordsS o ((s.drop (headS o).length).take (Lib.index (s.drop (headS o).length) (tailS o)).toNat))).bind fun vs=>
    if vs.length=o.x.length∧mayS o vs=true then some (vs,(s.drop (headS o).length).drop ((Lib.index (s.drop (headS o).length) (tailS o)).toNat+(tailS o).length)) else none
  else none)
 else none
def readA:List Ot→List UInt8→Option (List (List Int)×List UInt8)
 |[],s=>some ([],s)
 |o::l,s=>(readT o s).bind fun p=>(readA l p.2).map fun q=>(p.1::q.1,q.2)
def readS (outs:List Ot) (s:List UInt8):Int×List (List Int)×Int:=
 if s=unsatS then (1,[],0) else if s=unknownS then (4,[],0) else match readA outs s with
  |none=>(0,[],5)
  |some (vs,r)=>if 64<outs.length then (0,[],5) else if r=dashesS++equalsS then (3,vs,0) else if r=dashesS then (2,vs,0) else (0,[],5)
theorem itoa_chars {v:Int} (h:I64 v):∀c∈Lib.itoa v,c=45∨isDigit c=true:=by
 intro c hc;unfold Lib.itoa at hc;split at hc
 ·rcases List.mem_cons.1 hc with rfl|hc
  ·exact .inl rfl
  ·exact .inr (dec_digit _ _ (Nat.le_refl _) c hc)
 ·exact .inr (dec_digit _ _ (Nat.le_refl _) c hc)
theorem word_chars {b:Bool} {v:Int} (h:I64 v):∀c∈wordV b v,c≠44∧c≠59∧c≠93∧c≠32:=by
 intro c hc;unfold wordV at hc;split at hc
 ·split at hc
  ·revert c;decide
  ·revert c;decide
 ·rcases itoa_chars h c hc with rfl|hd
  ·decide
  ·refine ⟨?_,?_,?_,?_⟩<;>(rintro rfl;exact absurd hd (by decide))
theorem join_chars {ws:List (List UInt8)} (h:∀w∈ws,∀c∈w,c≠44∧c≠59∧c≠93∧c≠32):∀c∈Lib.join ws [44,32],c≠59∧c≠93:=by
 induction ws with
 |nil=>intro c hc;simp[Lib.join,List.intercalate]at hc
 |cons w r ih=>
  intro c hc;cases r with
  |nil=>
   have e:Lib.join [w] [44,32]=w:=by simp[Lib.join,List.intercalate]
   rw[e]at hc;exact ⟨(h w List.mem_cons_self c hc).2.1,(h w List.mem_cons_self c hc).2.2.1⟩
  |cons w2 r=>
   rw[join_two]at hc;rcases List.mem_append.1 hc with hc|hc
   ·exact ⟨(h w List.mem_cons_self c hc).2.1,(h w List.mem_cons_self c hc).2.2.1⟩
   ·rcases List.mem_append.1 hc with hc|hc
    ·clear ih h;rcases List.mem_cons.1 hc with rfl|hc
     ·decide
     ·rw[List.mem_singleton.1 hc];decide
    ·exact ih (fun w hw=>h w (List.mem_cons_of_mem _ hw)) c hc
theorem idx_first {L r t:List UInt8} {c:UInt8} (h:∀d∈L,d≠c):Lib.index (L++((c::t)++r)) (c::t)=L.length:=by
 refine Lib.index_first (by rw[List.length_append];omega) ?_ fun j hj=> ?_
 ·unfold Lib.occAt;rw[List.drop_left];rw[List.isPrefixOf_iff_prefix];exact ⟨r,rfl⟩
 ·rw[Bool.eq_false_iff];intro ho;have h1:=Lib.occAt_head rfl ho;rw[List.getElem?_append_left hj,List.getElem?_eq_getElem hj]at h1;exact h _ (List.getElem_mem hj) (Option.some.inj h1)
theorem idx_none {L t:List UInt8} {c:UInt8} (h:∀d∈L,d≠c):Lib.index L (c::t)= -1:=by
 refine Lib.index_none fun j hj=> ?_;rw[Bool.eq_false_iff];intro ho;have h1:=Lib.occAt_head rfl ho;obtain ⟨hj',h2⟩:=List.getElem?_eq_some_iff.1 h1;exact h _ (List.getElem_mem hj') h2
theorem splitK_join:∀(ws:List (List UInt8)),ws≠[]→(∀w∈ws,∀c∈w,c≠44)→∀k,ws.length≤k+1→Lib.splitK [44,32] 0 k (Lib.join ws [44,32])=ws
 |[],h,_,_,_=>absurd rfl h
 |[w],_,h,k,_=>by
  have e:Lib.join [w] [44,32]=w:=by simp[Lib.join,List.intercalate]
  rw[e];have hi:Lib.index w [44,32]= -1:=idx_none (h w List.mem_cons_self);cases k with
  |zero=>rfl
  |succ k=>
   unfold Lib.splitK;rw[hi];rfl
 |w::w2::r,_,h,k,hk=>by
  rw[join_two];have hi:Lib.index (w++([44,32]++Lib.join (w2::r) [44,32])) [44,32]=w.length:=idx_first (h w List.mem_cons_self);cases k with
  |zero=>simp at hk
  |succ k=>
   unfold Lib.splitK;rw[hi,if_neg (by simp)];have e1:((w.length:Int).toNat+0)=w.length:=by simp
   have e2:(w.length:Int).toNat+([44,32]:List UInt8).length=w.length+2:=by simp
   rw[e1,e2,List.take_left];have e3:(w++([44,32]++Lib.join (w2::r) [44,32])).drop (w.length+2)=Lib.join (w2::r) [44,32]:=by
    rw[←List.drop_drop,List.drop_left];rfl
   rw[e3,splitK_join (w2::r) (by simp) (fun w hw=>h w (List.mem_cons_of_mem _ hw)) k (by simp at hk⊢;omega)]
theorem count_join:∀(ws:List (List UInt8)),ws≠[]→(∀w∈ws,∀c∈w,c≠44)→∀k,(Lib.join ws [44,32]).length<k→ws.length≤Lib.countFrom [44,32] k (Lib.join ws [44,32])+1
 |[],h,_,_,_=>absurd rfl h
 |[w],_,_,_,_=>by simp
 |w::w2::r,_,h,k,hk=>by
  rw[join_two]at hk⊢;have hi:Lib.index (w++([44,32]++Lib.join (w2::r) [44,32])) [44,32]=w.length:=idx_first (h w List.mem_cons_self);cases k with
  |zero=>omega
  |succ k=>
   unfold Lib.countFrom;rw[hi,if_neg (by simp)];have e2:(w.length:Int).toNat+([44,32]:List UInt8).length=w.length+2:=by simp
   have e3:(w++([44,32]++Lib.join (w2::r) [44,32])).drop (w.length+2)=Lib.join (w2::r) [44,32]:=by
    rw[←List.drop_drop,List.drop_left];rfl
   rw[e2,e3];have:=count_join (w2::r) (by simp) (fun w hw=>h w (List.mem_cons_of_mem _ hw)) k (by simp at hk⊢;omega);simp at this⊢;omega
theorem split_join {ws:List (List UInt8)} (h0:ws≠[]) (h:∀w∈ws,∀c∈w,c≠44):Lib.split (Lib.join ws [44,32]) [44,32]=ws:=
 splitK_join ws h0 h _ (count_join ws h0 h _ (Nat.lt_succ_self _))
theorem join_splitK:∀(k:Nat) (s:List UInt8),Lib.splitK [44,32] 0 k s≠[]∧Lib.join (Lib.splitK [44,32] 0 k s) [44,32]=s
 |0,s=>⟨by simp[Lib.splitK],by simp[Lib.splitK,Lib.join,List.intercalate]⟩
 |k+1,s=>by
  unfold Lib.splitK;split
  ·exact ⟨by simp,by simp[Lib.join,List.intercalate]⟩
  ·rename_i hm;refine ⟨by simp,?_⟩;have ih:=join_splitK k (s.drop ((Lib.index s [44,32]).toNat+([44,32]:List UInt8).length));rcases Lib.index_spec s [44,32]with ⟨h1,_⟩|⟨i,h1,h2,h3,_⟩
   ·exact absurd (beq_iff_eq.2 h1) hm
   ·rw[h1]at ih⊢;obtain ⟨hne,ihj⟩:=ih;generalize hq:Lib.splitK [44,32] 0 k (s.drop (((i:Int)).toNat+([44,32]:List UInt8).length))=q at*;cases q with
    |nil=>exact absurd rfl hne
    |cons p q=>
     rw[join_two,ihj];have h4:([44,32]:List UInt8)<+:s.drop i:=List.isPrefixOf_iff_prefix.1 h3;obtain ⟨z,hz⟩:=h4;have e1:((i:Int).toNat+0)=i:=by simp
     have e2:((i:Int).toNat+([44,32]:List UInt8).length)=i+2:=by simp
     rw[e1,e2,←List.drop_drop,←hz];show s.take i++([44,32]++z)=s;rw[hz,List.take_append_drop]
theorem join_split (s:List UInt8):Lib.join (Lib.split s [44,32]) [44,32]=s:=(join_splitK _ s).2
theorem value_word {b:Bool} {v:Int} (h:I64 v) (hb:b=true→bitV v=true):valueW b (wordV b v)=some v:=by
 unfold valueW wordV;cases b with
 |true=>
  have:=hb rfl;unfold bitV at this;simp at this;rcases this with rfl|rfl
  ·rfl
  ·rfl
 |false=>
  simp only[Bool.false_eq_true,if_false];rw[itoa_back v h.1 h.2];simp
theorem word_value {b:Bool} {v:Int} {w:List UInt8} (h:valueW b w=some v):w=wordV b v:=by
 unfold valueW at h;unfold wordV;cases b with
 |true=>
  simp only[if_true]at h⊢;split at h
  ·obtain rfl:=Option.some.inj h;assumption
  ·split at h
   ·obtain rfl:=Option.some.inj h;assumption
   ·cases h
 |false=>
  simp only[Bool.false_eq_true,if_false]at h⊢;split at h
  ·split at h
   ·obtain rfl:=Option.some.inj h;rename_i e;exact e.symm
   ·cases h
  ·cases h
theorem map_word {b:Bool}:∀{v:List Int},(∀n∈v,I64 n)→(b=true→v.all bitV=true)→mapW b (v.map (wordV b))=some v
 |[],_,_=>rfl
 |n::v,h,hb=>by
  show (valueW b (wordV b n)).bind _=_;rw[value_word (h n List.mem_cons_self) (fun e=>by have:=hb e;rw[List.all_cons,Bool.and_eq_true]at this;exact this.1),Option.bind_some,map_word (fun m hm=>h m (List.mem_cons_of_mem _ hm)) (fun e=>by have:=hb e;rw[List.all_cons,Bool.and_eq_true]at this;exact this.2)];rfl
theorem word_map {b:Bool}:∀{ws:List (List UInt8)} {v:List Int},mapW b ws=some v→ws=v.map (wordV b)
 |[],v,h=>by
  obtain rfl:=Option.some.inj h;rfl
 |w::ws,v,h=>by
  have h':(valueW b w).bind (fun n=>(mapW b ws).map (n::·))=some v:=h;cases hn:valueW b w with
  |none=>rw[hn]at h';cases h'
  |some n=>
   rw[hn,Option.bind_some]at h';cases hm:mapW b ws with
   |none=>rw[hm]at h';cases h'
   |some r=>
    rw[hm]at h';obtain rfl:=Option.some.inj h';rw[List.map_cons,←word_value hn,←word_map hm]
theorem may_bits {o:Ot} {v:List Int} (h:mayS o v=true):o.bool=true→v.all bitV=true:=by
 unfold mayS at h;simp only[Bool.and_eq_true,Bool.or_eq_true,Bool.not_eq_true']at h;intro hb;rcases h.2.2.2 with h|h
 ·rw[hb]at h;cases h
 ·exact h
theorem tail_cons (o:Ot):∃c t,tailS o=c::t∧(c=93∨c=59):=by
 unfold tailS;cases o.arr with
 |true=>exact ⟨93,_,rfl,.inl rfl⟩
 |false=>exact ⟨59,_,rfl,.inr rfl⟩
theorem read_line {o:Ot} {v:List Int} (hv:∀n∈v,I64 n) (hl:v.length=o.x.length) (hm:mayS o v=true) (r:List UInt8):readT o (lineS o v++r)=some (v,r):=by
 have hw:∀w∈v.map (wordV o.bool),∀c∈w,c≠44∧c≠59∧c≠93∧c≠32:=fun w hw=>by
  obtain ⟨n,hn,rfl⟩:=List.mem_map.1 hw;exact word_chars (hv n hn)
 have hj:=join_chars hw;have e:lineS o v++r=headS o++(Lib.join (v.map (wordV o.bool)) [44,32]++(tailS o++r)):=by
  unfold lineS;simp only[List.append_assoc]
 rw[e];unfold readT;have hp:Lib.hasPrefix (headS o++(Lib.join (v.map (wordV o.bool)) [44,32]++(tailS o++r))) (headS o)=true:=by
  unfold Lib.hasPrefix;rw[List.isPrefixOf_iff_prefix];exact ⟨_,rfl⟩
 rw[if_pos hp,List.drop_left];obtain ⟨c,t,ht,hc⟩:=tail_cons o;have hi:Lib.index (Lib.join (v.map (wordV o.bool)) [44,32]++(tailS o++r)) (tailS o)=(Lib.join (v.map (wordV o.bool)) [44,32]).length:=by
  rw[ht];refine idx_first fun d hd=> ?_;rcases hc with rfl|rfl
  ·exact (hj d hd).2
  ·exact (hj d hd).1
 rw[hi,if_pos (by omega),Int.toNat_natCast,List.take_left];have hws:mapW o.bool (wordsS o (Lib.join (v.map (wordV o.bool)) [44,32]))=some v:=by
  unfold wordsS;cases v with
  |nil=>
   have hx:o.x=[]:=List.length_eq_zero_iff.1 hl.symm;rw[if_pos ⟨hx,by simp[Lib.join,List.intercalate]⟩];rfl
  |cons n v=>
   rw[if_neg (fun h=>by rw[h.1]at hl;cases hl),split_join (by simp) (fun w hw' c hc=>(hw w hw' c hc).1)];exact map_word hv (may_bits hm)
 rw[hws,Option.bind_some,if_pos ⟨hl,hm⟩,←List.drop_drop,List.drop_left,List.drop_left]
theorem read_lines:∀{l:List Ot} {vs:List (List Int)},l.length=vs.length→(∀v∈vs,∀n∈v,I64 n)→(∀p∈l.zip vs,p.2.length=p.1.x.length)→maysS l vs=true→∀r,readA l (linesS l vs++r)=some (vs,r)
 |[],[],_,_,_,_,r=>rfl
 |o::l,v::vs,hn,hv,hl,hm,r=>by
  have hm':(mayS o v&&maysS l vs)=true:=hm;rw[Bool.and_eq_true]at hm';show (readT o (lineS o v++linesS l vs++r)).bind _=_;rw[List.append_assoc,read_line (hv v List.mem_cons_self) (hl (o,v) List.mem_cons_self) hm'.1,Option.bind_some];dsimp only;rw[read_lines (by simpa using hn) (fun v' h=>hv v' (List.mem_cons_of_mem _ h)) (fun p h=>hl p (List.mem_cons_of_mem _ h)) hm'.2];rfl
 |[],_::_,hn,_,_,_,_=>by cases hn
 |_::_,[],hn,_,_,_,_=>by cases hn
theorem line_read {o:Ot} {v:List Int} {s r:List UInt8} (h:readT o s=some (v,r)):s=lineS o v++r∧v.length=o.x.length∧mayS o v=true:=by
 unfold readT at h;split at h
 ·rename_i hp;split at h
  ·rename_i hi;generalize hrest:s.drop (headS o).length=rest at*;cases hw:mapW o.bool (wordsS o (rest.take (Lib.index rest (tailS o)).toNat)) with
   |none=>rw[hw]at h;cases h
   |some vs=>
    rw[hw,Option.bind_some]at h;split at h
    ·rename_i hc;obtain ⟨h1,h2⟩:=Prod.mk.inj (Option.some.inj h);subst h1;refine ⟨?_,hc.1,hc.2⟩;have hs:s=headS o++rest:=by
      have h3:headS o<+:s:=List.isPrefixOf_iff_prefix.1 hp;obtain ⟨z,hz⟩:=h3;rw[←hz,List.drop_left]at hrest;rw[←hz,hrest]
     have hline:rest.take (Lib.index rest (tailS o)).toNat=Lib.join (vs.map (wordV o.bool)) [44,32]:=by
      have h4:=word_map hw;rw[←h4];unfold wordsS;split
      ·rename_i h5;rw[h5.2];simp[Lib.join,List.intercalate]
      ·rw[join_split]
     rw[hs];unfold lineS;rw[List.append_assoc,List.append_assoc,←hline,←h2];congr 1;rcases Lib.index_spec rest (tailS o) with ⟨h1,_⟩|⟨i,h1,h2',h3,_⟩
     ·omega
     ·rw[h1,Int.toNat_natCast,←List.drop_drop];have h4:tailS o<+:rest.drop i:=List.isPrefixOf_iff_prefix.1 h3;obtain ⟨z,hz⟩:=h4;rw[←hz,List.drop_left,hz,List.take_append_drop]
    ·cases h
  ·cases h
 ·cases h
theorem lines_read:∀{l:List Ot} {vs:List (List Int)} {s r:List UInt8},readA l s=some (vs,r)→s=linesS l vs++r∧l.length=vs.length∧(∀p∈l.zip vs,p.2.length=p.1.x.length)∧maysS l vs=true
 |[],vs,s,r,h=>by
  obtain ⟨h1,h2⟩:=Prod.mk.inj (Option.some.inj h);subst h1 h2;exact ⟨rfl,rfl,(fun p hp=>by cases hp),rfl⟩
 |o::l,vs,s,r,h=>by
  have h':(readT o s).bind (fun p=>(readA l p.2).map fun q=>(p.1::q.1,q.2))=some (vs,r):=h;cases hp:readT o s with
  |none=>rw[hp]at h';cases h'
  |some p=>
   obtain ⟨v,s2⟩:=p;rw[hp,Option.bind_some]at h';dsimp only at h';cases hq:readA l s2 with
   |none=>rw[hq]at h';cases h'
   |some q=>
    obtain ⟨vs2,r2⟩:=q;rw[hq]at h';obtain ⟨h1,h2⟩:=Prod.mk.inj (Option.some.inj h');subst h1 h2;obtain ⟨a1,a2,a3⟩:=line_read hp;obtain ⟨b1,b2,b3,b4⟩:=lines_read hq;refine ⟨?_,by simp[b2],fun p hp=> ?_,?_⟩
    ·show s=lineS o v++linesS l vs2++r2;rw[a1,b1,List.append_assoc]
    ·rcases List.mem_cons.1 hp with rfl|hp
     ·exact a2
     ·exact b3 p hp
    ·show (mayS o v&&maysS l vs2)=true;rw[a3,b4];rfl
end Go.Proofs.YtjlhjabgclflcaaGreatDoor
set_option linter.unusedSimpArgs false
set_option linter.unusedVariables false
namespace Go.Proofs.YtjlhjabgclflcaaGreatDoor
open Go.RowKit Num Go.Joins
def docName (s:List UInt8):Bool:=match splitR s with
 |([t],_,e)=>e==0&&(t.k==1&&(t.t==s&& !wordP s))
 |_=>false
theorem ok_sol (s:List UInt8):okI (solN s)=nameB s:=by
 have e:itemS (solN s)=(wSolMin++s++[59],nameB s):=by
  show goalS (solN s)=_;unfold goalS solN;simp
 unfold okI;rw[e];cases h:nameB s with
 |false=>rfl
 |true=>
  have h2:=h;unfold nameB at h2;rw[Bool.and_eq_true]at h2;have h3:(textP (wSolMin++s++[59])).2.2=0:=by simpa using h2.2
  show (true&&fitsS (wSolMin++s++[59]))=true;unfold fitsS;rw[(textP_split h3).1];rfl
theorem one_name {s:List UInt8} {t:Tok} {p:Nat} (h:splitR s=([t],p,0)) (h1:t.k=1) (h2:t.t=s):Alone (1,s,0):=by
 obtain ⟨ts,e1,e2,_,_,_⟩:=splitR_ok (l:=s) (by rw[h]);rw[h]at e2;have ha:=toks_alone _ _ (Nat.le_refl _) ts e1 (stripT t) (by rw[←e2];exact List.mem_cons_self);unfold stripT at ha;rw[h1,h2]at ha;have hv:=alone_val ha (by decide);rw[hv]at ha;exact ha
theorem doc_name {s:List UInt8} (hs:s.length≤8000):nameB s=docName s:=by
 rw[Bool.eq_iff_iff];constructor
 ·intro h;obtain ⟨⟨_,hw⟩,_⟩:=nameB_iff.1 h;unfold nameB at h;unfold docName;rw[Bool.and_eq_true]at h;have h1:=h.1;generalize splitR s=R at*;obtain ⟨l,p,e⟩:=R;match l,h1 with
  |[t],h1=>
   simp at h1;simp[h1.1,h1.2.1,h1.2.2,hw]
 ·intro h;unfold docName at h;cases hr:splitR s with
  |mk l pe=>
   obtain ⟨p,e⟩:=pe;rw[hr]at h;match l,h,hr with
   |[t],h,hr=>
    simp at h;obtain ⟨h1,h2,h3,h4⟩:=h;subst h1;exact nameB_iff.2 ⟨⟨one_name hr h2 h3,h4⟩,by omega⟩
theorem name_head {s:List UInt8} (h:nameB s=true):∃c r,s=c::r∧isLetter c=true:=by
 obtain ⟨⟨ha,_⟩,_⟩:=nameB_iff.1 h;have h1:wordL s=(1,s.length):=ha.1;cases s with
 |nil=>cases h1
 |cons c r=>
  refine ⟨c,r,rfl,?_⟩;unfold wordL at h1;dsimp only at h1;cases hl:isLetter c with
  |true=>rfl
  |false=>
   exfalso;rw[hl]at h1;simp only[Bool.false_eq_true,if_false]at h1;split at h1
   ·injection h1 with h1 _;exact absurd h1 (by decide)
   ·split at h1
    ·injection h1 with h1 _;exact absurd h1 (by decide)
    ·split at h1
     ·injection h1 with h1 _;exact absurd h1 (by decide)
     ·split at h1
      ·injection h1 with h1 _;exact absurd h1 (by decide)
      ·injection h1 with h1 _;exact absurd h1 (by decide)
theorem may_name {o:Ot} {v:List Int} (h:mayS o v=true):nameB o.name=true:=by
 unfold mayS at h;rw[Bool.and_eq_true,ok_sol]at h;exact h.1
theorem line_head {o:Ot} {v:List Int} (h:mayS o v=true) (r:List UInt8):∃c q,lineS o v++r=c::q∧isLetter c=true:=by
 obtain ⟨c,q,h1,h2⟩:=name_head (may_name h);unfold lineS headS;cases o.arr with
 |true=>exact ⟨c,_,by rw[if_pos rfl,h1];simp only[List.cons_append,List.append_assoc];rfl,h2⟩
 |false=>exact ⟨c,_,by rw[if_neg (by decide),h1];simp only[List.cons_append,List.append_assoc];rfl,h2⟩
theorem lines_not {l:List Ot} {vs:List (List Int)} (h:maysS l vs=true) {k:Int} (hk:k=2∨k=3):linesS l vs++endS k≠unsatS∧linesS l vs++endS k≠unknownS:=by
 match l,vs,h with
 |o::l,v::vs,h=>
  have h':(mayS o v&&maysS l vs)=true:=h;rw[Bool.and_eq_true]at h';have e:linesS (o::l) (v::vs)++endS k=lineS o v++(linesS l vs++endS k):=by
   show lineS o v++linesS l vs++endS k=_;rw[List.append_assoc]
  obtain ⟨c,q,h1,h2⟩:=line_head h'.1 (linesS l vs++endS k);rw[e,h1];constructor
  ·intro hc;injection hc with hc _;subst hc;exact absurd h2 (by decide)
  ·intro hc;injection hc with hc _;subst hc;exact absurd h2 (by decide)
 |[],_,_=>
  show ([]:List UInt8)++endS k≠unsatS∧[]++endS k≠unknownS;rcases hk with rfl|rfl<;>decide
 |_::_,[],_=>
  show ([]:List UInt8)++endS k≠unsatS∧[]++endS k≠unknownS;rcases hk with rfl|rfl<;>decide
theorem vals_len {a:List Int}:∀{x v:List Int},valsO a x=some v→v.length=x.length
 |[],v,h=>by
  obtain rfl:=Option.some.inj h;rfl
 |i::x,v,h=>by
  have h':(valO a i).bind (fun n=>(valsO a x).map (n::·))=some v:=h;cases hn:valO a i with
  |none=>rw[hn]at h';cases h'
  |some n=>
   rw[hn,Option.bind_some]at h';cases hm:valsO a x with
   |none=>rw[hm]at h';cases h'
   |some r=>
    rw[hm]at h';obtain rfl:=Option.some.inj h';rw[List.length_cons,List.length_cons,vals_len hm]
theorem vals_mem {a:List Int}:∀{x v:List Int},valsO a x=some v→∀n∈v,n∈a
 |[],v,h,n,hn=>by
  obtain rfl:=Option.some.inj h;cases hn
 |i::x,v,h,n,hn=>by
  have h':(valO a i).bind (fun n=>(valsO a x).map (n::·))=some v:=h;cases hi:valO a i with
  |none=>rw[hi]at h';cases h'
  |some m=>
   rw[hi,Option.bind_some]at h';cases hm:valsO a x with
   |none=>rw[hm]at h';cases h'
   |some r=>
    rw[hm]at h';obtain rfl:=Option.some.inj h';rcases List.mem_cons.1 hn with rfl|hn
    ·unfold valO at hi;split at hi
     ·exact List.mem_of_getElem? hi
     ·cases hi
    ·exact vals_mem hm n hn
theorem own_parts {a:List Int}:∀{l:List Ot} {vs:List (List Int)},ownO a l=some vs→l.length=vs.length∧(∀v∈vs,∀n∈v,n∈a)∧(∀p∈l.zip vs,valsO a p.1.x=some p.2∧p.2.length=p.1.x.length)
 |[],vs,h=>by
  obtain rfl:=Option.some.inj h;exact ⟨rfl,(fun v hv=>by cases hv),fun p hp=>by cases hp⟩
 |o::l,vs,h=>by
  have h':(valsO a o.x).bind (fun v=>(ownO a l).map (v::·))=some vs:=h;cases hv:valsO a o.x with
  |none=>rw[hv]at h';cases h'
  |some v=>
   rw[hv,Option.bind_some]at h';cases hm:ownO a l with
   |none=>rw[hm]at h';cases h'
   |some r=>
    rw[hm]at h';obtain rfl:=Option.some.inj h';obtain ⟨b1,b2,b3⟩:=own_parts hm;refine ⟨by simp[b1],fun u hu n hn=> ?_,fun p hp=> ?_⟩
    ·rcases List.mem_cons.1 hu with rfl|hu
     ·exact vals_mem hv n hn
     ·exact b2 u hu n hn
    ·rcases List.mem_cons.1 hp with rfl|hp
     ·exact ⟨hv,vals_len hv⟩
     ·exact b3 p hp
theorem reply_back {outs:List Ot} {k:Int} {a:List Int} {s:List UInt8} (ha:∀n∈a,I64 n) (h:replyT outs k a=(s,0)):∃vs,readS outs s=(k,vs,0)∧(k=2∨k=3→ownO a outs=some vs)∧(¬(k=2∨k=3)→vs=[]):=by
 unfold replyT at h;by_cases h1:k=1
 ·rw[if_pos h1]at h;obtain ⟨rfl,_⟩:=Prod.mk.inj h;refine ⟨[],?_,fun h=>absurd h (by omega),fun _=>rfl⟩;unfold readS;rw[if_pos rfl,h1]
 rw[if_neg h1]at h;by_cases h4:k=4
 ·rw[if_pos h4]at h;obtain ⟨rfl,_⟩:=Prod.mk.inj h;refine ⟨[],?_,fun h=>absurd h (by omega),fun _=>rfl⟩;unfold readS;rw[if_neg (by decide),if_pos rfl,h4]
 rw[if_neg h4]at h;by_cases hk:k=2∨k=3
 ·rw[if_pos hk]at h;cases hw:ownO a outs with
  |none=>
   rw[hw]at h;obtain ⟨_,h⟩:=Prod.mk.inj h;cases h
  |some vs=>
   rw[hw]at h;dsimp only at h;split at h
   ·rename_i hm;obtain ⟨h,_⟩:=Prod.mk.inj h;rw[Bool.and_eq_true,decide_eq_true_eq]at hm;obtain ⟨b1,b2,b3⟩:=own_parts hw;obtain ⟨n1,n2⟩:=lines_not hm.2 hk;refine ⟨vs,?_,fun _=>rfl,fun h=>absurd hk h⟩;unfold readS;rw[←h,if_neg n1,if_neg n2,read_lines b1 (fun v hv n hn=>ha n (b2 v hv n hn)) (fun p hp=>(b3 p hp).2) hm.2];dsimp only;rw[if_neg (by omega)];rcases hk with rfl|rfl
    ·rw[if_neg (by decide),if_pos (by decide)]
    ·rw[if_pos (by decide)]
   ·obtain ⟨_,h⟩:=Prod.mk.inj h;cases h
 ·rw[if_neg hk]at h;obtain ⟨_,h⟩:=Prod.mk.inj h;cases h
theorem reply_err {outs:List Ot} {k:Int} {a:List Int}:replyT outs k a=([],2)∨(replyT outs k a).2=0:=by
 unfold replyT;split
 ·exact .inr rfl
 ·split
  ·exact .inr rfl
  ·split
   ·split
    ·exact .inl rfl
    ·split
     ·exact .inr rfl
     ·exact .inl rfl
   ·exact .inl rfl
def placeX (n m:Nat):List Int:=(List.range m).map fun i=>((n+i:Nat):Int)
def outsP:Nat→List Ot→List (List Int)→List Ot
 |n,o::l,v::r=>⟨o.name,o.bool,o.arr,placeX n v.length⟩::outsP (n+v.length) l r
 |_,_,_=>[]
theorem place_succ (n m:Nat):placeX n (m+1)=(n:Int)::placeX (n+1) m:=by
 unfold placeX;rw[List.range_succ_eq_map,List.map_cons,List.map_map];congr 1;refine List.map_congr_left fun i _=> ?_;show ((n+(i+1):Nat):Int)=((n+1+i:Nat):Int);congr 1;omega
theorem vals_place:∀(v pre post:List Int),valsO (pre++(v++post)) (placeX pre.length v.length)=some v
 |[],_,_=>rfl
 |n::v,pre,post=>by
  rw[List.length_cons,place_succ];show (valO _ (pre.length:Int)).bind _=_;have h1:valO (pre++(n::v++post)) (pre.length:Int)=some n:=by
   unfold valO;rw[if_pos (by omega),Int.toNat_natCast];simp
  rw[h1,Option.bind_some];have h2:=vals_place v (pre++[n]) post;rw[List.length_append,List.length_singleton]at h2;have e:pre++[n]++(v++post)=pre++(n::v++post):=by simp
  rw[e]at h2;rw[h2];rfl
theorem own_place:∀(l:List Ot) (vs:List (List Int)) (pre:List Int),l.length=vs.length→ownO (pre++vs.flatten) (outsP pre.length l vs)=some vs
 |[],[],_,_=>rfl
 |o::l,v::vs,pre,h=>by
  show (valsO _ (placeX pre.length v.length)).bind _=_;rw[List.flatten_cons,vals_place v pre vs.flatten,Option.bind_some];have h2:=own_place l vs (pre++v) (by simpa using h);rw[List.length_append,List.append_assoc]at h2;rw[h2];rfl
 |[],_::_,_,h=>by cases h
 |_::_,[],_,h=>by cases h
theorem outs_len:∀(n:Nat) (l:List Ot) (vs:List (List Int)),l.length=vs.length→(outsP n l vs).length=l.length
 |_,[],[],_=>rfl
 |n,o::l,v::vs,h=>by
  show (outsP (n+v.length) l vs).length+1=l.length+1;rw[outs_len _ l vs (by simpa using h)]
 |_,[],_::_,h=>by cases h
 |_,_::_,[],h=>by cases h
theorem place_len (n m:Nat):(placeX n m).length=m:=by simp[placeX]
theorem outs_same:∀(n:Nat) (l:List Ot) (vs:List (List Int)),l.length=vs.length→(∀p∈l.zip vs,p.2.length=p.1.x.length)→linesS (outsP n l vs) vs=linesS l vs∧maysS (outsP n l vs) vs=maysS l vs
 |_,[],[],_,_=>⟨rfl,rfl⟩
 |n,o::l,v::vs,h,hl=>by
  obtain ⟨h1,h2⟩:=outs_same (n+v.length) l vs (by simpa using h) fun p hp=>hl p (List.mem_cons_of_mem _ hp);have hx:v.length=o.x.length:=hl (o,v) List.mem_cons_self;constructor
  ·show lineS _ v++linesS (outsP (n+v.length) l vs) vs=lineS o v++linesS l vs;rw[h1];congr 1;unfold lineS headS tailS;simp only[place_len,hx]
  ·show (mayS _ v&&maysS (outsP (n+v.length) l vs) vs)=(mayS o v&&maysS l vs);rw[h2];rfl
 |_,[],_::_,h,_=>by cases h
 |_,_::_,[],h,_=>by cases h
theorem reply_once {outs:List Ot} {k:Int} {s:List UInt8} {vs:List (List Int)} (h:readS outs s=(k,vs,0)):(k=1∧s=unsatS∧vs=[])∨(k=4∧s=unknownS∧vs=[])∨((k=2∨k=3)∧outs.length=vs.length∧replyT (outsP 0 outs vs) k vs.flatten=(s,0)):=by
 unfold readS at h;split at h
 ·rename_i h1;obtain ⟨a,b⟩:=Prod.mk.inj h;obtain ⟨b,_⟩:=Prod.mk.inj b;exact .inl ⟨a.symm,h1,b.symm⟩
 split at h
 ·rename_i h1;obtain ⟨a,b⟩:=Prod.mk.inj h;obtain ⟨b,_⟩:=Prod.mk.inj b;exact .inr (.inl ⟨a.symm,h1,b.symm⟩)
 cases hr:readA outs s with
 |none=>
  rw[hr]at h;obtain ⟨_,b⟩:=Prod.mk.inj h;obtain ⟨_,b⟩:=Prod.mk.inj b;cases b
 |some p=>
  obtain ⟨us,r⟩:=p;rw[hr]at h;dsimp only at h;obtain ⟨c1,c2,c3,c4⟩:=lines_read hr;have fin:∀k':Int,(k'=2∨k'=3)→outs.length≤64→r=endS k'→k=k'→vs=us→(k=2∨k=3)∧outs.length=vs.length∧replyT (outsP 0 outs vs) k vs.flatten=(s,0):=fun k' hk' h64 hr' hkk hvv=>by
   subst hkk hvv;refine ⟨hk',c2,?_⟩;unfold replyT;have ho:=own_place outs vs [] c2;rw[List.nil_append]at ho;obtain ⟨s1,s2⟩:=outs_same 0 outs vs c2 c3;have ho':ownO vs.flatten (outsP 0 outs vs)=some vs:=ho;rw[if_neg (by omega),if_neg (by omega),if_pos hk',ho'];dsimp only;rw[outs_len 0 outs vs c2,s1,s2,c4,decide_eq_true h64,←hr',←c1];rfl
  split at h
  ·obtain ⟨_,b⟩:=Prod.mk.inj h;obtain ⟨_,b⟩:=Prod.mk.inj b;cases b
  rename_i h64;split at h
  ·rename_i hd;obtain ⟨a,b⟩:=Prod.mk.inj h;obtain ⟨b,_⟩:=Prod.mk.inj b;exact .inr (.inr (fin 3 (.inr rfl) (by omega) hd a.symm b.symm))
  split at h
  ·rename_i hd;obtain ⟨a,b⟩:=Prod.mk.inj h;obtain ⟨b,_⟩:=Prod.mk.inj b;exact .inr (.inr (fin 2 (.inl rfl) (by omega) hd a.symm b.symm))
  ·obtain ⟨_,b⟩:=Prod.mk.inj h;obtain ⟨_,b⟩:=Prod.mk.inj b;cases b
end Go.Proofs.YtjlhjabgclflcaaGreatDoor

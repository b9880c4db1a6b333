/-
  Joined texts: Pe, Pf, Pg, Ph, Pi, Dab.
-/
import Derived.Test.YtjlhjabgclflcaaGreatDoorDat
import Derived.Test.YtjlhjabgclflcaaGreatDoorVa
import Derived.Lib.BufferOwn
import Derived.Test.YtjlhjabgclflcaaGreatDoorPa
import Derived.Laws.OwnMore
set_option maxRecDepth 100000
set_option linter.unusedSimpArgs false
set_option linter.unusedVariables false
namespace Go.Proofs.YtjlhjabgclflcaaGreatDoor
open Go.RowKit
def Ps (w:World) (g:Nat) (l:List Tok) (n:Nat):Prop:=∃A c,Blk w g 204 #[.slice A l.length c,.int .i64 n]∧RdT w A c l∧∀b o s,A=some ⟨b,o,s⟩→b<g
theorem RdT.grown {w w':World} {A:Option Addr} {c:Nat} {l:List Tok} {k:Nat} (h:RdT w A c l) (hg:w.grownBy w' (some k)) (hb:∀b o s,A=some ⟨b,o,s⟩→b≠k):RdT w' A c l:=
 ⟨h.room,h.cap,fun hn=>by
  obtain ⟨b,o,hA,hlt,hc⟩:=h.at_ hn;have hne:=hb b o none hA;have hx:∀k,w'.cell? ⟨b,k,none⟩=w.cell? ⟨b,k,none⟩:=fun k'=>World.cell?_of_block (hg.block b hlt (fun e=>hne (by injection e)));refine ⟨b,o,hA,Nat.lt_of_lt_of_le hlt hg.size,fun j hj=> ?_⟩;simp only[hx];exact hc j hj⟩
theorem Ps.grown {w w':World} {g n k:Nat} {l:List Tok} (h:Ps w g l n) (hg:w.grownBy w' (some k)) (hk:g<k):Ps w' g l n:=by
 obtain ⟨A,c,h1,h2,h3⟩:=h;exact ⟨A,c,h1.turn hg (by omega),h2.grown hg (fun b o s e=>by have:=h3 b o s e;omega),h3⟩
theorem Ps.below {w w':World} {g n:Nat} {l:List Tok} (h:Ps w g l n) (hb:Below w.heap.size w w'):Ps w' g l n:=by
 obtain ⟨A,c,h1,h2,h3⟩:=h;exact ⟨A,c,h1.below hb (Nat.le_refl _),h2.below hb (Nat.le_refl _),h3⟩
theorem Ps.read {w w':World} {g n:Nat} {l:List Tok} (h:Ps w g l n) (q:Read w w'):Ps w' g l n:=h.below (q.below _)
theorem Ps.lt {w:World} {g n:Nat} {l:List Tok} (h:Ps w g l n):g<w.heap.size:=by
 obtain ⟨A,c,h1,_⟩:=h;exact h1.lt
theorem RdT.tail {w:World} {b o c:Nat} {t:Tok} {l:List Tok} (h:RdT w (some ⟨b,o,none⟩) c (t::l)):RdT w (some ⟨b,o+4,none⟩) (c-1) l:=by
 have h1:=h.room;have h2:=h.cap;rw[List.length_cons]at h1;refine ⟨by omega,by omega,fun hn=> ?_⟩;obtain ⟨b',o',hA,hlt,hc⟩:=h.at_ (by simp);injection hA with hA;injection hA with e1 e2 _;subst e1 e2;refine ⟨b,o+4,rfl,hlt,fun j hj=> ?_⟩;have:=hc (j+1) (by simpa using hj);rw[Nat.add_mul,Nat.one_mul,←Nat.add_assoc,Nat.add_right_comm o (j*4)]at this;exact this
theorem Ps.cons {w:World} {g n:Nat} {t:Tok} {l:List Tok} (h:Ps w g (t::l) n):∃b o c,Blk w g 204 #[.slice (some ⟨b,o,none⟩) (l.length+1) c,.int .i64 n]∧l.length+1≤c∧c≤maxLen∧b<g∧w.cell? ⟨b,o,none⟩=some (.int .i64 t.k)∧w.cell? ⟨b,o+1,none⟩=some (.string ⟨t.t.toArray⟩)∧w.cell? ⟨b,o+2,none⟩=some (.int .i64 t.v)∧w.cell? ⟨b,o+3,none⟩=some (.int .i64 t.at_)∧∀o' c',(o'=o+4∧c'=c-1)∨(c=1∧o'=o∧c'=0)→Ps (w.setCell ⟨g,0,none⟩ (.slice (some ⟨b,o',none⟩) l.length c')) g l n:=by
 obtain ⟨A,c,h1,h2,h3⟩:=h;obtain ⟨b,o,hA,hlt,hc⟩:=h2.at_ (by simp);subst hA;obtain ⟨c1,c2,c3,c4⟩:=hc 0 (by simp);rw[Nat.zero_mul,Nat.add_zero]at c1 c2 c3 c4;have h4:=h3 b o none rfl;refine ⟨b,o,c,h1,h2.room,h2.cap,h4,c1,c2,c3,c4,fun o' c' hx=>⟨_,_,h1.set_ 0 _,?_,fun b' o' s' e=> ?_⟩⟩
 ·have hr:RdT w (some ⟨b,o',none⟩) c' l:=by
   rcases hx with ⟨rfl,rfl⟩|⟨rfl,rfl,rfl⟩
   ·exact h2.tail
   ·have h5:=h2.room;rw[List.length_cons]at h5;obtain rfl:l=[]:=List.length_eq_zero_iff.1 (by omega);exact RdT.nil (Nat.zero_le _)
  exact hr.grown (grown_set w ⟨g,0,none⟩ _) (fun b' o' s' e=>by
   injection e with e;injection e with e1 _ _;show b'≠g;omega)
 ·injection e with e;injection e with e1 _ _;omega
theorem Ps.alloc {w:World} {g n:Nat} {l:List Tok} (h:Ps w g l n) (o:Obj):Ps (w.alloc o) g l n:=h.below (below_alloc1 w o)
theorem Ps.nil {w:World} {g n:Nat} (h:Ps w g [] n):∃A c,Blk w g 204 #[.slice A 0 c,.int .i64 n]∧c≤maxLen:=by
 obtain ⟨A,c,h1,h2,_⟩:=h;exact ⟨A,c,h1,h2.cap⟩
def Threw (n:Nat) (l:List Tok) (c:Int) (e:Ending):Prop:=e= .panicked [{v:= .iface 206 (.agg #[.int .i64 (placeP n l),.int .i64 c]),recovered:=false}]
def PPost {α:Type} (g n:Nat) (w:World) (V:World→Value→α→Prop) (r:PR α) (e:Ending) (w':World):Prop:=
 w.grownBy w' (some g)∧((∃x l,r= .ok x l∧Ps w' g l n∧∃v,e= .returned v∧V w' v x)∨(∃c l,r= .bad c l∧Threw n l c e))
theorem place_any {g n:Nat} {l:List Tok} {w:World} (h:Ps w g l n):Calls Tryz.prog 151 #[.pointer (some ⟨g,0,none⟩)] w fun e w'=>e= .returned (.int .i64 (placeP n l))∧Read w w':=by
 cases l with
 |nil=>
  obtain ⟨A,c,h1,h2⟩:=h.nil;obtain ⟨v1,v2,v3,v4⟩:=Blk.both h1;go_enter Tryz.func151,Tryz.ntmps151;go_wp2_with fail;go_ret;exact ⟨rfl,(by first|exact Read.refl _|exact ⟨_,rfl⟩|exact Read.drewN ⟨_,rfl⟩ _|exact Read.drewN (Read.drewN ⟨_,rfl⟩ _) _|exact Read.drewN (Read.refl _) _)⟩
 |cons t l=>
  obtain ⟨b,o,c,h1,h2,h3,h4,c1,c2,c3,c4,h5⟩:=h.cons;obtain ⟨v1,v2,v3,v4⟩:=Blk.both h1;clear h5;go_enter Tryz.func151,Tryz.ntmps151;go_wp2_with fail;go_ret;exact ⟨rfl,(by first|exact Read.refl _|exact ⟨_,rfl⟩|exact Read.drewN ⟨_,rfl⟩ _|exact Read.drewN (Read.drewN ⟨_,rfl⟩ _) _|exact Read.drewN (Read.refl _) _)⟩
theorem throw_any {g n:Nat} {l:List Tok} {w:World} (c:Int) (h:Ps w g l n):Calls Tryz.prog 148 #[.pointer (some ⟨g,0,none⟩),.int .i64 c] w fun e w'=>Threw n l c e∧w.grownBy w' (some g):=by
 go_enter Tryz.func148,Tryz.ntmps148;go_wp2_with fail;refine (place_any h).mono ?_;rintro e w1 ⟨rfl,q⟩;go_wp2_with fail;exact ⟨rfl,rfl,q.grown _⟩
theorem is_any {g n:Nat} {l:List Tok} {w:World} (s:ByteArray) (h:Ps w g l n):Calls Tryz.prog 152 #[.pointer (some ⟨g,0,none⟩),.string s] w fun e w'=>e= .returned (.bool (isP s.data.toList l))∧Read w w':=by
 cases l with
 |nil=>
  obtain ⟨A,c,h1,h2⟩:=h.nil;obtain ⟨v1,v2,v3,v4⟩:=Blk.both h1;go_enter Tryz.func152,Tryz.ntmps152;go_wp2_with fail;go_ret;exact ⟨rfl,(by first|exact Read.refl _|exact ⟨_,rfl⟩|exact Read.drewN ⟨_,rfl⟩ _|exact Read.drewN (Read.drewN ⟨_,rfl⟩ _) _|exact Read.drewN (Read.refl _) _)⟩
 |cons t l=>
  obtain ⟨b,o,c,h1,h2,h3,h4,c1,c2,c3,c4,h5⟩:=h.cons;obtain ⟨v1,v2,v3,v4⟩:=Blk.both h1;have hs:(t.t==s.toList)=(t.t==s.data.toList):=by rw[ByteArray.toList_eq]
  clear h5;go_enter Tryz.func152,Tryz.ntmps152;go_wp2_with fail;go_ret;exact ⟨rfl,(by first|exact Read.refl _|exact ⟨_,rfl⟩|exact Read.drewN ⟨_,rfl⟩ _|exact Read.drewN (Read.drewN ⟨_,rfl⟩ _) _|exact Read.drewN (Read.refl _) _)⟩
theorem grown_tr {a b c:World} {row:Option Nat} (h:a.grownBy b row) (k:b.grownBy c row):a.grownBy c row:=World.grownBy.trans h k
theorem wrong_any {g n:Nat} {l:List Tok} {w:World} (h:Ps w g l n):Calls Tryz.prog 160 #[.pointer (some ⟨g,0,none⟩)] w fun e w'=>Threw n l (errP l) e∧w.grownBy w' (some g):=by
 cases l with
 |nil=>
  obtain ⟨A,c,h1,h2⟩:=h.nil;obtain ⟨v1,v2,v3,v4⟩:=Blk.both h1;go_enter Tryz.func160,Tryz.ntmps160;go_wp2_with fail;refine (throw_any 6 h).mono ?_;rintro e w1 ⟨rfl,q⟩;go_wp2_with fail;exact ⟨rfl,rfl,q⟩
 |cons t l=>
  obtain ⟨b,o,c,h1,h2,h3,h4,c1,c2,c3,c4,h5⟩:=h.cons;obtain ⟨v1,v2,v3,v4⟩:=Blk.both h1;clear h5;go_enter Tryz.func160,Tryz.ntmps160;go_wp2_with fail;refine (throw_any 5 h).mono ?_;rintro e w1 ⟨rfl,q⟩;go_wp2_with fail;exact ⟨rfl,rfl,q⟩
theorem next_any {g n:Nat} {t:Tok} {l:List Tok} {w:World} (h:Ps w g (t::l) n):Calls Tryz.prog 165 #[.pointer (some ⟨g,0,none⟩)] w fun e w'=>e= .returned (.agg #[.int .i64 t.k,.string ⟨t.t.toArray⟩,.int .i64 t.v,.int .i64 t.at_])∧Ps w' g l n∧w.grownBy w' (some g):=by
 obtain ⟨b,o,c,h1,h2,h3,h4,c1,c2,c3,c4,h5⟩:=h.cons;obtain ⟨v1,v2,v3,v4⟩:=Blk.both h1;have hg:=h.lt;let z:Obj:= .cells #[.int .i64 0,.string ⟨#[]⟩,.int .i64 0,.int .i64 0] 163;have u1:(w.alloc z).cell? ⟨g,0,none⟩=some (.slice (some ⟨b,o,none⟩) (l.length+1) c):=(World.cell?_of_block (Below.heap_alloc w z g hg)).trans v1;have hb:b<w.heap.size:=by omega
 have k1:(w.alloc z).cell? ⟨b,o,none⟩=some (.int .i64 t.k):=(World.cell?_of_block (Below.heap_alloc w z b hb)).trans c1;have k2:(w.alloc z).cell? ⟨b,o+1,none⟩=some (.string ⟨t.t.toArray⟩):=(World.cell?_of_block (Below.heap_alloc w z b hb)).trans c2;have k3:(w.alloc z).cell? ⟨b,o+2,none⟩=some (.int .i64 t.v):=(World.cell?_of_block (Below.heap_alloc w z b hb)).trans c3;have k4:(w.alloc z).cell? ⟨b,o+3,none⟩=some (.int .i64 t.at_):=(World.cell?_of_block (Below.heap_alloc w z b hb)).trans c4;go_enter Tryz.func165,Tryz.ntmps165;go_wp2_with fail;all_goals
  refine bodyPost_ret (v:= .agg #[.int .i64 t.k,.string ⟨t.t.toArray⟩,.int .i64 t.v,.int .i64 t.at_]) (by simp[results,Tryz.results165,go_sem]) rfl ⟨rfl,?_,?_⟩
  ·exact ((h5 _ _ (by first|exact Or.inl ⟨rfl,rfl⟩|exact Or.inr ⟨by omega,rfl,rfl⟩)).alloc _).alloc _
  ·exact grown_tr (grown_tr (grown_set w ⟨g,0,none⟩ _) (World.grownBy_alloc _ _ _)) (World.grownBy_alloc _ _ _)
theorem Ps.after {w w':World} {g n:Nat} {l:List Tok} (h:Ps w g l n) (q:Read w w'):Ps w' g l n∧w.grownBy w' (some g):=⟨h.read q,q.grown _⟩
def VU (w:World) (v:Value) (u:Unit):Prop:=v= .tuple #[]
def VS (w:World) (v:Value) (s:List UInt8):Prop:=v= .string ⟨s.toArray⟩
theorem may_any {g n:Nat} {l:List Tok} {w:World} (s:ByteArray) (h:Ps w g l n):Calls Tryz.prog 154 #[.pointer (some ⟨g,0,none⟩),.string s] w fun e w'=>∃b l',mayP s.data.toList l= .ok b l'∧e= .returned (.bool b)∧Ps w' g l' n∧w.grownBy w' (some g):=by
 go_enter Tryz.func154,Tryz.ntmps154;go_wp2_with fail;refine (is_any s h).mono ?_;rintro e w1 ⟨rfl,q⟩;obtain ⟨h1,q1⟩:=h.after q;cases hi:isP s.data.toList l with
 |false=>
  go_wp2_with fail;go_ret;exact ⟨false,l,by unfold mayP;rw[hi];rfl,rfl,h1,q1⟩
 |true=>
  cases l with
  |nil=>cases hi
  |cons t l=>
   go_wp2_with fail;refine (next_any h1).mono ?_;rintro e w2 ⟨rfl,h2,q2⟩;go_wp2_with fail;go_ret;exact ⟨true,l,by unfold mayP;rw[hi];rfl,rfl,h2,grown_tr q1 q2⟩
theorem take_may (s:List UInt8) (l:List Tok):takeP s l=match mayP s l with| .ok true r=> .ok () r| .ok false r=>wrongP r| .bad e r=> .bad e r:=by
 unfold takeP mayP;by_cases h:isP s l=true
 ·rw[if_pos h,if_pos h]
 ·rw[if_neg h,if_neg h]
theorem take_any {g n:Nat} {l:List Tok} {w:World} {B:Nat} (ss:List ByteArray) (h:Ps w g l n) (hB:g<B) (hlt:B<w.heap.size) (hlen:ss.length≤100) (hs:Blk w B 9 (ss.map Value.string).toArray):Calls Tryz.prog 150 #[.pointer (some ⟨g,0,none⟩),.slice (some ⟨B,0,none⟩) ss.length ss.length] w (PPost g n w VU (takesP (ss.map (·.data.toList)) l)):=by
 go_enter Tryz.func150,Tryz.ntmps150;go_wp2_with fail;go_loopg [8] ss.length (fun k a wr=>∃j l',k=ss.length-j∧j≤ss.length∧a= .int .i64 (j:Nat)∧Hid (takesP (ss.map (·.data.toList)) l=takesP ((ss.drop j).map (·.data.toList)) l')∧Ps wr g l' n∧w.grownBy wr (some g))
 case atStart=>exact ⟨0,l,rfl,Nat.zero_le _,rfl,rfl,h,World.grownBy.refl _ _⟩
 case round=>
  obtain ⟨j,l',hk,hj,rfl,hT,hp,hq⟩:=hrel;by_cases hjl:j<ss.length
  ·have d1:decide ((j:Int)<(ss.length:Int))=true:=decide_eq_true (by omega);have hb:Blk wr B 9 (ss.map Value.string).toArray:=hs.turn hq (by omega);have c1:wr.cell? ⟨B,j,none⟩=some (.string ss[j]):=by
    rw[hb.cell j];simp[hjl]
   have hd:ss.drop j=ss[j]::ss.drop (j+1):=List.drop_eq_getElem_cons hjl;have hT2:=hT.out;rw[hd]at hT2;have HT2:=Lib.hid hT2;clear hT2 hd hb hT;generalize ss[j]=s at*;go_wp2_with fail;refine (may_any s hp).mono ?_;rintro e w1 ⟨b,l1,e1,rfl,h1,q1⟩;have hm:=take_may s.data.toList l';rw[e1]at hm;cases b with
   |true=>
    go_wp2_with fail;go_roundg (ss.length-(j+1))
    case measure=>omega
    case rel=>
     refine ⟨j+1,l1,rfl,by omega,by simp,?_,h1,grown_tr hq q1⟩;show _=_;rw[HT2.out];show pbind (takeP s.data.toList) _ l'=_;unfold pbind;rw[hm]
   |false=>
    go_wp2_with fail;refine (wrong_any h1).mono ?_;rintro e w2 ⟨rfl,q2⟩;go_wp2_with fail;refine ⟨rfl,grown_tr (grown_tr hq q1) q2,Or.inr ⟨_,_,?_,rfl⟩⟩;rw[HT2.out];show pbind (takeP s.data.toList) _ l'=_;unfold pbind;rw[hm];rfl
  ·have d1:decide ((j:Int)<(ss.length:Int))=false:=decide_eq_false (by omega);have hT2:=hT.out;rw[List.drop_of_length_le (by omega)]at hT2;go_wp2_with fail;go_end0;exact ⟨hq,Or.inl ⟨(),l',by first|exact hT2|rfl,hp,_,rfl,rfl⟩⟩
theorem taken {g n:Nat} {l:List Tok} {w:World} (ss:List ByteArray) (h:Ps w g l n) (hlen:ss.length≤100):Calls Tryz.prog 150 #[.pointer (some ⟨g,0,none⟩),.slice (some ⟨w.heap.size,0,none⟩) ss.length ss.length] (w.alloc (.cells (ss.map Value.string).toArray 9)) (PPost g n w VU (takesP (ss.map (·.data.toList)) l)):=
 (take_any ss (h.alloc _) h.lt (by simp) hlen (Blk.new ..)).mono fun e w' ⟨q,h2⟩=>⟨grown_tr (World.grownBy_alloc w _ _) q,h2⟩
theorem takes_one (s:List UInt8) (l:List Tok):takesP [s] l=takeP s l:=by
 show pbind (takeP s) _ l=_;unfold pbind;cases takeP s l with
 |ok x r=>rfl
 |bad e r=>rfl
theorem taken1 {g n:Nat} {l:List Tok} {w:World} (s:ByteArray) (h:Ps w g l n):Calls Tryz.prog 150 #[.pointer (some ⟨g,0,none⟩),.slice (some ⟨w.heap.size,0,none⟩) 1 1] (w.alloc (.cells #[.string s] 9)) (PPost g n w VU (takeP s.data.toList l)):=by
 rw[←takes_one];exact taken [s] h (by simp)
theorem contains_word (t:List UInt8) (zs:List ByteArray) (hz:zs.map (·.data.toList)=words):Lib.containsS zs ⟨t.toArray⟩=wordP t:=by
 have h:=Lib.containsS_iff zs ⟨t.toArray⟩;unfold wordP;rw[←hz];rcases Bool.eq_false_or_eq_true (Lib.containsS zs ⟨t.toArray⟩) with e|e
 ·rw[e];have:=h.1 e;symm;rw[List.contains_iff_mem];exact List.mem_map.2 ⟨_,this,by simp⟩
 ·rw[e];symm;rw[Bool.eq_false_iff];intro hc;rw[List.contains_iff_mem]at hc;obtain ⟨z,hz1,hz2⟩:=List.mem_map.1 hc;have:z=⟨t.toArray⟩:=by
   rw[←hz2]
  rw[this]at hz1;rw[h.2 hz1]at e;cases e
def wordsB:List ByteArray:=words.map fun s=>⟨s.toArray⟩
theorem word_is (t:List UInt8) (w:World):Calls Tryz.prog 169 #[.string ⟨t.toArray⟩] w fun e w'=>e= .returned (.bool (wordP t))∧Below w.heap.size w w':=by
 go_enter Tryz.func169,Tryz.ntmps169;go_wp2_with fail;have hc:∀j,j<wordsB.length→(w.alloc (.cells (wordsB.map Value.string).toArray 9)).cell? ⟨w.heap.size,0+j,none⟩=some (.string (wordsB.getD j ByteArray.empty)):=fun j hj=>by
  rw[(Blk.new w _ _).cell,Nat.zero_add];simp[hj]
 refine (Tryz.slices_Contains_string w.heap.size 0 14 14 wordsB ⟨t.toArray⟩ _ (by decide) (by decide) hc).mono ?_;rintro e w1 ⟨rfl,rfl⟩;have hw:=contains_word t (wordsB.take 14) rfl;go_wp2_with fail;go_ret;exact ⟨rfl,below_alloc1 w _⟩
theorem below_gr {w w':World} (h:Below w.heap.size w w') (row:Option Nat):w.grownBy w' row:=⟨h.os,h.tape,h.output,h.size,fun b hb _=>h.block b hb⟩
theorem Ps.under {w w':World} {g n:Nat} {l:List Tok} (h:Ps w g l n) (q:Below w.heap.size w w'):Ps w' g l n∧w.grownBy w' (some g):=⟨h.below q,below_gr q _⟩
theorem kind_no {t:Tok} {l:List Tok} (h:(t.k==1)=false):kindP (t::l)=t.k:=by
 show (if t.k=1∧_ then _ else _)=_;rw[if_neg (by rintro ⟨h1,_⟩;rw[h1]at h;cases h)]
theorem kind_any {g n:Nat} {l:List Tok} {w:World} (h:Ps w g l n):Calls Tryz.prog 163 #[.pointer (some ⟨g,0,none⟩)] w fun e w'=>e= .returned (.int .i64 (kindP l))∧Below w.heap.size w w':=by
 cases l with
 |nil=>
  obtain ⟨A,c,h1,h2⟩:=h.nil;obtain ⟨v1,v2,v3,v4⟩:=Blk.both h1;go_enter Tryz.func163,Tryz.ntmps163;go_wp2_with fail;go_ret;exact ⟨rfl,Below.refl _ _⟩
 |cons t l=>
  obtain ⟨b,o,c,h1,h2,h3,h4,c1,c2,c3,c4,h5⟩:=h.cons;obtain ⟨v1,v2,v3,v4⟩:=Blk.both h1;clear h5;cases hk:(t.k==1) with
  |false=>
   have e:=kind_no (l:=l) hk;go_enter Tryz.func163,Tryz.ntmps163;go_wp2_with fail;go_ret;exact ⟨by rw[e];rfl,Below.refl _ _⟩
  |true=>
   have hk1:t.k=1:=eq_of_beq hk;have e:kindP (t::l)=if wordP t.t=true then 0 else 1:=by
    show (if t.k=1∧_ then _ else _)=_;rw[hk1];by_cases hw:wordP t.t=true
    ·rw[if_pos ⟨rfl,hw⟩,if_pos hw]
    ·rw[if_neg (fun h=>hw h.2),if_neg hw]
   go_enter Tryz.func163,Tryz.ntmps163;go_wp2_with fail;refine (word_is t.t w).mono ?_;rintro e2 w1 ⟨rfl,q⟩;have h6:=h1.below q (Nat.le_refl _);obtain ⟨v1,v2,v3,v4⟩:=Blk.both h6;have k1:w1.cell? ⟨b,o,none⟩=some (.int .i64 t.k):=(q.cell (p:=⟨b,o,none⟩) (by have:=h1.lt;show b<w.heap.size;omega)).trans c1;cases hw:wordP t.t with
   |true=>
    rw[hw]at e;go_wp2_with fail;go_ret;exact ⟨by rw[e];rfl,q⟩
   |false=>
    rw[hw]at e;go_wp2_with fail;go_ret;exact ⟨by rw[e];rfl,q⟩
theorem kind_head {l:List Tok} {k:Int} (h:kindP l=k) (hk:k≠0):∃t r,l=t::r:=by
 cases l with
 |nil=>exact absurd h.symm hk
 |cons t r=>exact ⟨t,r,rfl⟩
theorem name_any {g n:Nat} {l:List Tok} {w:World} (h:Ps w g l n):Calls Tryz.prog 157 #[.pointer (some ⟨g,0,none⟩)] w (PPost g n w VS (nameP l)):=by
 have hf1:∀(a b c d:Value) (w:World),(Instr.field 163 (.agg #[a,b,c,d]) 1).run Tryz.prog w= .ok b w:=fun _ _ _ _ _=>by rfl
 have hf2:∀(a b c d:Value) (w:World),(Instr.field 163 (.agg #[a,b,c,d]) 2).run Tryz.prog w= .ok c w:=fun _ _ _ _ _=>by rfl
 go_enter Tryz.func157,Tryz.ntmps157;go_wp2_with fail;refine (kind_any h).mono ?_;rintro e w1 ⟨rfl,q⟩;obtain ⟨h1,q1⟩:=h.under q;cases hk:(kindP l !=1) with
 |true=>
  have hk2:kindP l≠1:=by simpa using hk
  go_wp2_with fail;refine (wrong_any h1).mono ?_;rintro e w2 ⟨rfl,q2⟩;go_wp2_with fail;exact ⟨rfl,grown_tr q1 q2,Or.inr ⟨_,_,by unfold nameP;rw[if_neg hk2];rfl,rfl⟩⟩
 |false=>
  have hk2:kindP l=1:=by simpa using hk
  obtain ⟨t,r,rfl⟩:=kind_head hk2 (by decide);go_wp2_with fail;refine (next_any h1).mono ?_;rintro e w2 ⟨rfl,h2,q2⟩;go_wp2_with fail;go_ret;exact ⟨grown_tr q1 q2,Or.inl ⟨_,_,by unfold nameP;rw[if_pos hk2];rfl,h2,_,rfl,rfl⟩⟩
theorem PPost.mono {α β:Type} {g n:Nat} {w w1 w2:World} {V:World→Value→α→Prop} {V2:World→Value→β→Prop} {r:PR α} {r2:PR β} {e:Ending} (h:PPost g n w1 V r e w2) (q:w.grownBy w1 (some g)) (hv:∀w' v x l,r= .ok x l→V w' v x→∃y,r2= .ok y l∧V2 w' v y) (hb:∀c l,r= .bad c l→r2= .bad c l):PPost g n w V2 r2 e w2:=by
 obtain ⟨q2,h⟩:=h;refine ⟨grown_tr q q2,?_⟩;rcases h with ⟨x,l,h1,h2,v,h3,h4⟩|⟨c,l,h1,h2⟩
 ·obtain ⟨y,h5,h6⟩:=hv _ _ _ _ h1 h4;exact Or.inl ⟨y,l,h5,h2,v,h3,h6⟩
 ·exact Or.inr ⟨c,l,hb _ _ h1,h2⟩
end Go.Proofs.YtjlhjabgclflcaaGreatDoor
set_option linter.unusedSimpArgs false
set_option linter.unusedVariables false
namespace Go.Proofs.YtjlhjabgclflcaaGreatDoor
open Go.RowKit
def Dt.len {α:Type} (f:α→Nat):Dt α:=⟨fun _ _ v a=>∃A c,v= .slice A (f a) c,fun _ h=>h,fun _ _ h=>h⟩
def layE0 (ty:TypeId):Lay Ex0:=⟨ty,4,fun
 |0=> .eq fun x=> .int .i64 x.k
 |1=> .eq fun x=> .int .i64 x.n
 |2=> .eq fun x=> .string ⟨x.s.toArray⟩
 |_=> .len (·.m)⟩
def layE (ty:TypeId):Lay Ex:=⟨ty,4,fun
 |0=> .eq fun x=> .int .i64 x.k
 |1=> .eq fun x=> .int .i64 x.n
 |2=> .eq fun x=> .string ⟨x.s.toArray⟩
 |_=>(layE0 ty).row.via (·.l)⟩
def layR:Lay (Int×Int):=⟨184,2,fun
 |0=> .eq fun x=> .int .i64 x.1
 |_=> .eq fun x=> .int .i64 x.2⟩
def layI (ty te:TypeId):Lay It:=⟨ty,8,fun
 |0=> .eq fun x=> .int .i64 x.k
 |1=> .eq fun x=> .string ⟨x.name.toArray⟩
 |2=> .eq fun x=> .bool x.bool
 |3=>layR.row.via (·.dom)
 |4=> .eq fun x=> .int .i64 x.size
 |5=> .eq fun x=> .bool x.out
 |6=>(layE te).row.via (·.vals)
 |_=> .eq fun x=> .int .i64 x.ask⟩
def Lay.agg {α:Type} (L:Lay α) (F:Nat→Prop) (w:World) (v:Value) (x:α):Prop:=∃vs:Array Value,v= .agg vs∧vs.size=L.sz∧∀k,k<L.sz→∃u,vs[k]? =some u∧(L.C k).P F w u x
end Go.Proofs.YtjlhjabgclflcaaGreatDoor
set_option linter.unusedSimpArgs false
set_option linter.unusedVariables false
namespace Go.Proofs.YtjlhjabgclflcaaGreatDoor
open Go.RowKit
theorem grown_new {a b c:World} {row:Option Nat} {k:Nat} (h:a.grownBy b row) (q:b.grownBy c (some k)) (hk:a.heap.size≤k):a.grownBy c row:=
 ⟨q.os.trans h.os,q.tape.trans h.tape,q.output.trans h.output,Nat.le_trans h.size q.size,fun j hj hne=>(q.block j (Nat.lt_of_lt_of_le hj h.size) (fun e=>by injection e with e;omega)).trans (h.block j hj hne)⟩
theorem info_it:(Tryz.prog.info? 97).map (·.size)=some 8:=by kernel_rfl
theorem Ps.belowB {w w':World} {g n B:Nat} {l:List Tok} (h:Ps w g l n) (hb:Below B w w') (hB:g<B):Ps w' g l n:=by
 have hs:=hb.size;obtain ⟨A,c,h1,h2,h3⟩:=h;refine ⟨A,c,(hb.block g hB).trans h1,⟨h2.room,h2.cap,fun hn=> ?_⟩,h3⟩;obtain ⟨b,o,hA,hlt,hc⟩:=h2.at_ hn;have hx:∀k,w'.cell? ⟨b,k,none⟩=w.cell? ⟨b,k,none⟩:=fun k=>World.cell?_of_block (hb.block b (by have:=h3 b o none hA;omega));refine ⟨b,o,hA,Nat.lt_of_lt_of_le hlt hs,fun j hj=> ?_⟩;simp only[hx];exact hc j hj
theorem grown_belowB {a b c:World} {row:Option Nat} {B:Nat} (h:a.grownBy b row) (q:Below B b c) (hB:a.heap.size≤B):a.grownBy c row:=
 ⟨q.os.trans h.os,q.tape.trans h.tape,q.output.trans h.output,Nat.le_trans h.size q.size,fun j hj hne=>(q.block j (Nat.lt_of_lt_of_le hj hB)).trans (h.block j hj hne)⟩
end Go.Proofs.YtjlhjabgclflcaaGreatDoor
set_option linter.unusedSimpArgs false
set_option linter.unusedVariables false
namespace Go.Proofs.YtjlhjabgclflcaaGreatDoor
open Go.RowKit
def Gr2 (w w':World) (g X:Nat):Prop:=w'.os=w.os∧w'.tape=w.tape∧w'.output=w.output∧w.heap.size≤w'.heap.size∧∀b,b<w.heap.size→b≠g→b≠X→w'.heap[b]? =w.heap[b]?
theorem Gr2.refl (w:World) (g X:Nat):Gr2 w w g X:=⟨rfl,rfl,rfl,Nat.le_refl _,fun _ _ _ _=>rfl⟩
theorem Gr2.one {a b c:World} {g X:Nat} (h:Gr2 a b g X) (q:b.grownBy c (some g)):Gr2 a c g X:=
 ⟨q.os.trans h.1,q.tape.trans h.2.1,q.output.trans h.2.2.1,Nat.le_trans h.2.2.2.1 q.size,fun k hk h1 h2=>(q.block k (Nat.lt_of_lt_of_le hk h.2.2.2.1) (fun e=>h1 (by injection e))).trans (h.2.2.2.2 k hk h1 h2)⟩
theorem Gr2.two {a b c:World} {g X:Nat} (h:Gr2 a b g X) (q:b.grownBy c (some X)):Gr2 a c g X:=
 ⟨q.os.trans h.1,q.tape.trans h.2.1,q.output.trans h.2.2.1,Nat.le_trans h.2.2.2.1 q.size,fun k hk h1 h2=>(q.block k (Nat.lt_of_lt_of_le hk h.2.2.2.1) (fun e=>h2 (by injection e))).trans (h.2.2.2.2 k hk h1 h2)⟩
theorem Gr2.below {a b c:World} {g X B:Nat} (h:Gr2 a b g X) (q:Below B b c) (hB:a.heap.size≤B):Gr2 a c g X:=
 ⟨q.os.trans h.1,q.tape.trans h.2.1,q.output.trans h.2.2.1,Nat.le_trans h.2.2.2.1 q.size,fun k hk h1 h2=>(q.block k (Nat.lt_of_lt_of_le hk hB)).trans (h.2.2.2.2 k hk h1 h2)⟩
def Fr (w0 w:World) (H X:Nat):Nat→Prop:=fun b=>w0.heap.size≤b∧b<w.heap.size∧b≠H∧b≠X
def icells (x:It) (D V:Value):Array Value:= #[.int .i64 x.k,.string ⟨x.name.toArray⟩,.bool x.bool,D,.int .i64 x.size,.bool x.out,V,.int .i64 x.ask]
def zI:Array Value:= #[.int .i64 0,.string ⟨#[]⟩,.bool false,.slice none 0 0,.int .i64 0,.bool false,.slice none 0 0,.int .i64 0]
structure Two (w0 w:World) (g n H X:Nat) (l:List Tok) (x:It) (D V:Value):Prop where
 ps:Ps w g l n
 res:Blk w H 97 zI
 it:Blk w X 97 (icells x D V)
 dom:layR.row.P (Fr w0 w H X) w D x.dom
 vals:(layE 159).row.P (Fr w0 w H X) w V x.vals
 gr:w0.grownBy w (some g)
 hH:w0.heap.size≤H
 hX:w0.heap.size≤X
 ne:H≠X
 hg:g<w0.heap.size
section
variable {w0 w w' : World} {g n H X : Nat} {l l' : List Tok} {x : It} {D V : Value}
theorem Two.keep {α:Type} {Q:Dt α} {u:Value} {a:α} (h:Q.P (Fr w0 w H X) w u a) {k:Nat} (q:w.grownBy w' (some k)) (hk:k<w0.heap.size∨k=X):Q.P (Fr w0 w' H X) w' u a:=
 Q.mono (fun b hb=>⟨hb.1,Nat.lt_of_lt_of_le hb.2.1 q.size,hb.2.2⟩) (Q.grown h q fun b hb e=>by
  injection e with e;rcases hk with hk|hk
  ·have:=hb.1;omega
  ·exact hb.2.2.2 (e.trans hk))
theorem Two.call (T:Two w0 w g n H X l x D V) (q:w.grownBy w' (some g)) (p:Ps w' g l' n):Two w0 w' g n H X l' x D V:=
 ⟨p,T.res.turn q (by have:=T.hH;have:=T.hg;omega),T.it.turn q (by have:=T.hX;have:=T.hg;omega),Two.keep T.dom q (.inl T.hg),Two.keep T.vals q (.inl T.hg),grown_tr T.gr q,T.hH,T.hX,T.ne,T.hg⟩
theorem Two.alloc (T:Two w0 w g n H X l x D V) (o:Obj):Two w0 (w.alloc o) g n H X l x D V:=T.call (World.grownBy_alloc w o _) (T.ps.alloc o)
theorem Two.cell (T:Two w0 w g n H X l x D V) (i:Nat):w.cell? ⟨X,i,none⟩=(icells x D V)[i]? :=T.it.cell i
theorem Two.set (T:Two w0 w g n H X l x D V) (i:Nat) (u:Value) {x':It} {D' V':Value} (h:(icells x D V).setIfInBounds i u=icells x' D' V') (hd:x'.dom=x.dom∧D'=D) (hv:(x'.vals=x.vals∧V'=V)∨(layE 159).row.P (Fr w0 w H X) w V' x'.vals):Two w0 (w.setCell ⟨X,i,none⟩ u) g n H X l x' D' V':=by
 have q:=grown_set w ⟨X,i,none⟩ u;have hgX:g<X:=by have:=T.hX;have:=T.hg;omega
 refine ⟨T.ps.grown q hgX,T.res.turn q T.ne,by have:=T.it.set_ i u;rw[h]at this;exact this,?_,?_,grown_new T.gr q T.hX,T.hH,T.hX,T.ne,T.hg⟩
 ·rw[hd.1,hd.2];exact Two.keep T.dom q (.inr rfl)
 ·rcases hv with ⟨h1,h2⟩|h1
  ·rw[h1,h2];exact Two.keep T.vals q (.inr rfl)
  ·exact Two.keep h1 q (.inr rfl)
theorem Two.name (T:Two w0 w g n H X l x D V) (s:List UInt8):Two w0 (w.setCell ⟨X,1,none⟩ (.string ⟨s.toArray⟩)) g n H X l {x with name:=s} D V:=T.set 1 _ rfl ⟨rfl,rfl⟩ (.inl ⟨rfl,rfl⟩)
theorem Two.kind (T:Two w0 w g n H X l x D V) (k:Int):Two w0 (w.setCell ⟨X,0,none⟩ (.int .i64 k)) g n H X l {x with k:=k} D V:=T.set 0 _ rfl ⟨rfl,rfl⟩ (.inl ⟨rfl,rfl⟩)
theorem Two.bool (T:Two w0 w g n H X l x D V) (b:Bool):Two w0 (w.setCell ⟨X,2,none⟩ (.bool b)) g n H X l {x with bool:=b} D V:=T.set 2 _ rfl ⟨rfl,rfl⟩ (.inl ⟨rfl,rfl⟩)
theorem Two.size (T:Two w0 w g n H X l x D V) (k:Int):Two w0 (w.setCell ⟨X,4,none⟩ (.int .i64 k)) g n H X l {x with size:=k} D V:=T.set 4 _ rfl ⟨rfl,rfl⟩ (.inl ⟨rfl,rfl⟩)
theorem Two.out (T:Two w0 w g n H X l x D V):Two w0 (w.setCell ⟨X,5,none⟩ (.bool true)) g n H X l {x with out:=true} D V:=T.set 5 _ rfl ⟨rfl,rfl⟩ (.inl ⟨rfl,rfl⟩)
theorem Two.ask (T:Two w0 w g n H X l x D V) (k:Int):Two w0 (w.setCell ⟨X,7,none⟩ (.int .i64 k)) g n H X l {x with ask:=k} D V:=T.set 7 _ rfl ⟨rfl,rfl⟩ (.inl ⟨rfl,rfl⟩)
theorem Two.put (T:Two w0 w g n H X l x D V) {V':Value} {xs:List Ex} (h:(layE 159).row.P (Fr w0 w H X) w V' xs):Two w0 (w.setCell ⟨X,6,none⟩ V') g n H X l {x with vals:=xs} D V':=T.set 6 _ rfl ⟨rfl,rfl⟩ (.inr h)
theorem Two.fr (T:Two w0 w g n H X l x D V) {B:Nat} (hB:w0.heap.size≤B) (h1:H<B) (h2:X<B):∀b,since B w b→Fr w0 w H X b:=fun b hb=>⟨Nat.le_trans hB hb.1,hb.2,by have:=hb.1;omega,by have:=hb.1;omega⟩
theorem Two.lt (T:Two w0 w g n H X l x D V):H<w.heap.size∧X<w.heap.size∧w0.heap.size≤w.heap.size:=⟨T.res.lt,T.it.lt,T.gr.size⟩
def VIt (B:Nat) (w:World) (v:Value) (x:It):Prop:=∃D V,v= .agg (icells x D V)∧layR.row.P (since B w) w D x.dom∧(layE 159).row.P (since B w) w V x.vals
theorem Two.done {w9:World} {r:PR It} {e:Ending} (T:Two w0 w g n H X l x D V) (q:w.grownBy w9 (some H)) (hr:r= .ok x l) (he:e= .returned (.agg (icells x D V))):PPost g n w0 (VIt w0.heap.size) r e w9:=by
 have hg:=T.hg;have hH:=T.hH;refine ⟨grown_new T.gr q T.hH,Or.inl ⟨x,l,hr,T.ps.grown q (by omega),_,he,D,V,rfl,?_,?_⟩⟩
 ·exact layR.row.mono (fun b hb=>⟨hb.1,Nat.lt_of_lt_of_le hb.2.1 q.size⟩) (layR.row.grown T.dom q fun b hb e=>by injection e with e;exact hb.2.2.1 e)
 ·exact (layE 159).row.mono (fun b hb=>⟨hb.1,Nat.lt_of_lt_of_le hb.2.1 q.size⟩) ((layE 159).row.grown T.vals q fun b hb e=>by injection e with e;exact hb.2.2.1 e)
end
end Go.Proofs.YtjlhjabgclflcaaGreatDoor
set_option linter.unusedSimpArgs false
set_option linter.unusedVariables false
namespace Go.Proofs.YtjlhjabgclflcaaGreatDoor
open Go.RowKit
theorem Blk.eight {w:World} {g:Nat} {ty:TypeId} {a b c d e f h i:Value} (k:Blk w g ty #[a,b,c,d,e,f,h,i]):w.cell? ⟨g,0,none⟩=some a∧w.cell? ⟨g,1,none⟩=some b∧w.cell? ⟨g,2,none⟩=some c∧w.cell? ⟨g,3,none⟩=some d∧w.cell? ⟨g,4,none⟩=some e∧w.cell? ⟨g,5,none⟩=some f∧w.cell? ⟨g,6,none⟩=some h∧w.cell? ⟨g,7,none⟩=some i:=
 ⟨k.cell 0,k.cell 1,k.cell 2,k.cell 3,k.cell 4,k.cell 5,k.cell 6,k.cell 7⟩
theorem two_start {w:World} {g n:Nat} {l:List Tok} (h:Ps w g l n) (x:It) (hd:x.dom=[]) (hv:x.vals=[]):Two w ((w.alloc (.cells zI 97)).alloc (.cells (icells x (.slice none 0 0) (.slice none 0 0)) 97)) g n w.heap.size (w.heap.size+1) l x (.slice none 0 0) (.slice none 0 0):=by
 refine ⟨(h.alloc _).alloc _,(Blk.new w 97 zI).alloc _,Blk.at_ (by simp),?_,?_,grown_tr (World.grownBy_alloc _ _ _) (World.grownBy_alloc _ _ _),Nat.le_refl _,Nat.le_succ _,by omega,h.lt⟩
 ·rw[hd];exact Lay.row_nil (Nat.zero_le _)
 ·rw[hv];exact Lay.row_nil (Nat.zero_le _)
end Go.Proofs.YtjlhjabgclflcaaGreatDoor
set_option linter.unusedSimpArgs false
set_option linter.unusedVariables false
namespace Go.Proofs.YtjlhjabgclflcaaGreatDoor
open Go.RowKit
end Go.Proofs.YtjlhjabgclflcaaGreatDoor

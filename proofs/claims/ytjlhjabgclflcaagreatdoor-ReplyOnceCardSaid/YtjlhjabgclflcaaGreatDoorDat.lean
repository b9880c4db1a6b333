/-
  Joined texts: Tj, Tk, Dat.
-/
import Derived.Test.YtjlhjabgclflcaaGreatDoorTi
import Derived.Test.YtjlhjabgclflcaaGreatDoorProg
import Derived.Test.YtjlhjabgclflcaaGreatDoorReg
import Derived.Maps.AppendAt
set_option maxHeartbeats 8000000
set_option maxRecDepth 100000
set_option linter.unusedSimpArgs false
set_option linter.unusedVariables false
namespace Go.Proofs.YtjlhjabgclflcaaGreatDoor
open Go.RowKit Num
theorem takeWhile_all {α:Type} (p:α→Bool) (l:List α):∀c∈l.takeWhile p,p c=true:=by
 induction l with
 |nil=>simp
 |cons x r ih=>
  rw[List.takeWhile_cons];split
  ·intro c hc;rcases List.mem_cons.1 hc with rfl|hc
   ·assumption
   ·exact ih c hc
  ·simp
theorem take_takeWhile {α:Type} (p:α→Bool) (l:List α):l.take (l.takeWhile p).length=l.takeWhile p:=by
 induction l with
 |nil=>rfl
 |cons x r ih=>
  rw[List.takeWhile_cons];split
  ·simpa using ih
  ·rfl
theorem num_text {l:List UInt8} {m:Nat} (h:wordL l=(2,m)):∃(neg:Bool) (ds:List UInt8),l.take m=(if neg then 45::ds else ds)∧ds≠[]∧∀c∈ds,isDigit c=true:=by
 cases l with
 |nil=>cases h
 |cons c r=>
  unfold wordL at h;simp only at h;split at h
  ·cases h
  ·split at h
   ·rename_i e1 e2;injection h with h1 h2;subst h2;refine ⟨false,c::r.takeWhile isDigit,?_,by simp,?_⟩
    ·rw[Nat.add_comm,List.take_succ_cons,take_takeWhile];rfl
    ·intro d hd;rcases List.mem_cons.1 hd with rfl|hd
     ·exact e2
     ·exact takeWhile_all _ _ _ hd
   ·split at h
    ·rename_i e1 e2 e3;injection h with h1 h2;subst h2;refine ⟨true,r.takeWhile isDigit,?_,?_,takeWhile_all _ _⟩
     ·rw[Nat.add_comm,List.take_succ_cons,take_takeWhile,e3.1];rfl
     ·cases r with
      |nil=>simp at e3
      |cons d r=>
       have:isDigit d=true:=by simpa using e3.2
       rw[List.takeWhile_cons,if_pos this];simp
    ·split at h
     ·cases h
     ·split at h<;>cases h
theorem rvalue_any {t:ByteArray} {l:List UInt8} {m:Nat} (w:World) (h:wordL l=(2,m)) (ht:t.data.toList=l.take m) (hs:t.size≤8192):Calls Tryz.prog 60 #[.string t] w fun e w'=>e= .returned (.tuple #[.int .i64 (vR t.data.toList).1,.bool (vR t.data.toList).2])∧Below w.heap.size w w':=by
 obtain ⟨neg,ds,h1,h2,h3⟩:=num_text h;rw[h1]at ht;cases neg with
 |false=>
  rw[ht];exact rvalue_pos w ht h2 h3 hs
 |true=>
  rw[ht];exact rvalue_neg w ht h2 h3 hs
theorem vR_ok {l:List UInt8} {v:Int} (h:Lib.parseIntB 64 l= .ok v):vR l=(v,true):=by unfold vR;rw[h]
theorem vR_no {l:List UInt8} (h:∀v,Lib.parseIntB 64 l≠.ok v):vR l=(0,false):=by
 unfold vR;split
 ·rename_i v e;exact absurd e (h v)
 ·rfl
theorem rsplit_any (s:ByteArray) (w:World):Calls Tryz.prog 45 #[.string s] w fun e w'=>RetTok 105 w w' e (splitR s.data.toList):=by
 by_cases hbig:8192<s.size
 ·have hR:Hid (splitR s.data.toList=([],0,3)):=by
   show _=_;unfold splitR;rw[if_pos (by simpa using hbig)]
  go_enter Tryz.func45,Tryz.ntmps45;go_wp2;rw[hR.out];exact bodyPost_ret (v:= .tuple #[.slice none 0 0,.int .i64 0,.int .i64 3]) (by simp[results,Tryz.results45,go_sem]) rfl ⟨⟨_,rfl,OwnT.nil _ _ _⟩,Below.refl _ _⟩
 have hs:s.size≤8192:=by omega
 have hR:Hid (splitR s.data.toList=splitB s.size (blankL s.data.toList) []):=by
  show _=_;unfold splitR;rw[if_neg (by simpa using hbig)];congr 1
 rw[hR.out];generalize hRR:splitB s.size (blankL s.data.toList) []=R;have HR0:=Lib.hid hRR;clear hRR;have d1:decide ((8192:Int)<(s.size:Int))=false:=decide_eq_false (by omega);clear hbig hR;go_enter Tryz.func45,Tryz.ntmps45;go_wp2_with fail;refine (rblank_any (i:=0) _ hs (Nat.zero_le _)).mono ?_;rintro e w2 ⟨rfl,q,_,hi,hd⟩;have hb:Below w.heap.size w w2:=q.below _;rw[List.drop_zero]at hd;have hRR:splitB s.size (s.data.toList.drop (bl s 0)) []=R:=by rw[hd];exact HR0.out
 have HR:=Lib.hid hRR;clear hd hRR HR0 q;generalize bl s 0=i at*;go_wp2_with fail;go_loopg [5,6] (s.size-i) (fun k v a wr=>∃acc j,k=s.size-j∧j≤s.size∧acc.length≤j∧a= .int .i64 (j:Nat)∧Hid (splitB s.size (s.data.toList.drop j) acc=R)∧OwnT wr w.heap.size 105 v acc∧Below w.heap.size w wr)
 case atStart=>exact ⟨[],i,rfl,hi,Nat.zero_le _,by simp,HR,OwnT.nil _ _ _,hb⟩
 case round=>
  obtain ⟨acc,j,hk,hj,hal,rfl,hT,ho,hb'⟩:=hrel;clear hb HR hi;obtain ⟨A,c,rfl⟩:=ho.len;by_cases hlt:j<s.size
  case neg=>
   have hR:=hT.out;rw[splitB_end hlt]at hR;have HR:=Lib.hid hR;clear hR hT;have d2:decide ((j:Int)<(s.size:Int))=false:=decide_eq_false (by omega);go_wp2;rw[←HR.out];exact bodyPost_ret (v:= .tuple #[.slice A acc.length c,.int .i64 0,.int .i64 0]) (by simp[results,Tryz.results45,go_sem]) rfl ⟨⟨_,rfl,ho⟩,hb'⟩
  have d2:decide ((j:Int)<(s.size:Int))=true:=decide_eq_true (by omega);by_cases hfull:acc.length=4096
  ·have hR:=hT.out;rw[splitB_full hlt hfull]at hR;have HR:=Lib.hid hR;have d3:((acc.length:Int)==4096)=true:=by rw[hfull];rfl
   clear hR hT;go_wp2;rw[←HR.out];exact bodyPost_ret (v:= .tuple #[.slice none 0 0,.int .i64 j,.int .i64 3]) (by simp[results,Tryz.results45,go_sem]) rfl ⟨⟨_,rfl,OwnT.nil _ _ _⟩,hb'⟩
  have d3:((acc.length:Int)==4096)=false:=by simp;omega
  go_wp2_with fail;refine (rword_any _ hs hlt).mono ?_;generalize hwl:wordL (s.data.toList.drop j)=km;obtain ⟨k,m⟩:=km;rintro e w3 ⟨rfl,q3⟩;have ho3:=ho.below (q3.below _);have hb3:=hb'.trans (q3.below _);have hm:k≠0→1≤m:=fun h=>by
   have h1:=wordL_pos (l:=s.data.toList.drop j) (by rw[hwl];exact h);rw[hwl]at h1;exact h1.1
  have hm2:j+m≤s.size:=by
   have h1:=wordL_le (s.data.toList.drop j);rw[hwl,drop_len]at h1;omega
  have HW:=Lib.hid hwl;have hal4:acc.length≠4096:=hfull;clear ho hb' q3 hwl;by_cases hk0:k=0
  ·subst hk0;have hR:=hT.out;rw[splitB_none hlt hal4 (by rw[HW.out])]at hR;have HR:=Lib.hid hR;clear hR hT;go_wp2;rw[←HR.out];exact bodyPost_ret (v:= .tuple #[.slice none 0 0,.int .i64 j,.int .i64 5]) (by simp[results,Tryz.results45,go_sem]) rfl ⟨⟨_,rfl,OwnT.nil _ _ _⟩,hb3⟩
  have hm1:=hm hk0;have b0:(k==0)=false:=by simpa using hk0
  clear hm;by_cases hk2:k=2
  ·subst hk2;have hsz:=ext_size hm2 hs;have kb:=Blk.new w3 105 #[.int .i64 2,.string (s.extract j (j+m)),.int .i64 0,.int .i64 j];have ho4:=ho3.alloc (.cells #[.int .i64 2,.string (s.extract j (j+m)),.int .i64 0,.int .i64 j] 105);have hb4:=below_trans hb3 (below_alloc1 w3 (.cells #[.int .i64 2,.string (s.extract j (j+m)),.int .i64 0,.int .i64 j] 105));by_cases hp:∃v,Lib.parseIntB 64 (s.extract j (j+m)).data.toList= .ok v
   ·obtain ⟨v,hp⟩:=hp;have hT2:splitB s.size (blankL (s.data.toList.drop (j+m))) (acc++[⟨2,(s.extract j (j+m)).data.toList,v,j⟩])=R:=by rw[←splitB_num hlt hal4 HW.out hp];exact hT.out
    have HT:=Lib.hid hT2;have HN:=Lib.hid (vR_ok hp);clear hT2 hT hp;go_wp2_with fail;refine (rvalue_any _ HW.out (take_ext s j m) hsz).mono ?_;rintro e w5 ⟨rfl,q⟩;rw[HN.out];have kb5:=Blk.below kb q (Nat.le_refl _);have ho5:=ho4.below q;have hb5:=hb4.trans (q.mono hb4.size);have hbw:w.heap.size≤w3.heap.size:=hb3.size;have hnb:(Value.slice A acc.length c).ownBlock≠some w3.heap.size:=fun e=>by have:=(World.ownsRow.lt ho3 _ e).2;omega
    generalize w3.heap.size=b at*;clear kb ho4 hb4 q ho3 hb3;obtain ⟨f1,f2,f3,f4⟩:=kb5.four;have z2:=kb5.frozen 2;have kb6:=kb5.set_ 2 (.int .i64 v);have ho6:=ho5.kept (grown_set w5 ⟨b,2,none⟩ (.int .i64 v)) (.inr hnb);have hb6:=grown_below hb5 (grown_set w5 ⟨b,2,none⟩ (.int .i64 v)) (by show w.heap.size≤b;omega);have hbs:w.heap.size≤(w5.setCell ⟨b,2,none⟩ (.int .i64 v)).heap.size:=hb6.size;go_wp2_with (at_builtin;refine wp_appR _ _ (w5.setCell ⟨b,2,none⟩ (.int .i64 v)) w.heap.size _ acc ⟨2,(s.extract j (j+m)).data.toList,v,j⟩ (by simp) (ext_eta _) rfl ho6 hbs (by omega) rfl rfl rfl rfl ?_;intro v' w7 ho7 hg7 hb7);have hbl7:Below w.heap.size w w7:=hb6.trans hb7;refine (rblank_any _ hs hm2).mono ?_;rintro e w8 ⟨rfl,q8,hi1,hi2,hd8⟩;have ho8:=ho7.below (q8.below _);have hb8:=hbl7.trans (q8.below _);have hT3:=HT.out;rw[←hd8]at hT3;have HT3:=Lib.hid hT3;clear hT3 hd8 HT;go_wp2_with fail;go_roundg (s.size-bl s (j+m))
    case measure=>omega
    case rel=>exact ⟨_,_,rfl,hi2,by simp;omega,by simp;omega,HT3,ho8,hb8⟩
   ·have hpn:∀v,Lib.parseIntB 64 (s.extract j (j+m)).data.toList≠.ok v:=fun v h=>hp ⟨v,h⟩;have hR:=hT.out;rw[splitB_bad hlt hal4 HW.out hpn]at hR;have HR:=Lib.hid hR;have HN:=Lib.hid (vR_no hpn);clear hR hT hp hpn;go_wp2_with fail;refine (rvalue_any _ HW.out (take_ext s j m) hsz).mono ?_;rintro e w5 ⟨rfl,q⟩;rw[HN.out];go_wp2;rw[←HR.out];exact bodyPost_ret (v:= .tuple #[.slice none 0 0,.int .i64 j,.int .i64 4]) (by simp[results,Tryz.results45,go_sem]) rfl ⟨⟨_,rfl,OwnT.nil _ _ _⟩,hb4.trans (q.mono hb4.size)⟩
  ·have hT2:splitB s.size (blankL (s.data.toList.drop (j+m))) (acc++[⟨k,(s.extract j (j+m)).data.toList,0,j⟩])=R:=by rw[←splitB_word hlt hal4 HW.out hk0 hk2];exact hT.out
   have HT:=Lib.hid hT2;have b2:(k==2)=false:=by simpa using hk2
   have kb:=Blk.new w3 105 #[.int .i64 k,.string (s.extract j (j+m)),.int .i64 0,.int .i64 j];have ho4:=ho3.alloc (.cells #[.int .i64 k,.string (s.extract j (j+m)),.int .i64 0,.int .i64 j] 105);have hb4:=below_trans hb3 (below_alloc1 w3 (.cells #[.int .i64 k,.string (s.extract j (j+m)),.int .i64 0,.int .i64 j] 105));have hbs:w.heap.size≤(w3.alloc (.cells #[.int .i64 k,.string (s.extract j (j+m)),.int .i64 0,.int .i64 j] 105)).heap.size:=hb4.size;clear hT2 hT;obtain ⟨f1,f2,f3,f4⟩:=kb.four;go_wp2_with (at_builtin;refine wp_appR _ _ (w3.alloc (.cells #[.int .i64 k,.string (s.extract j (j+m)),.int .i64 0,.int .i64 j] 105)) w.heap.size _ acc ⟨k,(s.extract j (j+m)).data.toList,0,j⟩ (by first|rfl|simp) (ext_eta _) rfl ho4 hbs (by omega) rfl rfl rfl rfl ?_;intro v' w7 ho7 hg7 hb7);have hbl7:Below w.heap.size w w7:=hb4.trans hb7;refine (rblank_any _ hs hm2).mono ?_;rintro e w8 ⟨rfl,q8,hi1,hi2,hd8⟩;have ho8:=ho7.below (q8.below _);have hb8:=hbl7.trans (q8.below _);have hT3:=HT.out;rw[←hd8]at hT3;have HT3:=Lib.hid hT3;clear hT3 hd8 HT;go_wp2_with fail;go_roundg (s.size-bl s (j+m))
   case measure=>omega
   case rel=>exact ⟨_,_,rfl,hi2,by simp;omega,by simp;omega,HT3,ho8,hb8⟩
end Go.Proofs.YtjlhjabgclflcaaGreatDoor
set_option linter.unusedSimpArgs false
set_option linter.unusedVariables false
namespace Go.Proofs.YtjlhjabgclflcaaGreatDoor
open Go.RowKit Num
structure RdT (w:World) (A:Option Addr) (c:Nat) (l:List Tok):Prop where
 room:l.length≤c
 cap:c≤maxLen
 at_:l≠[]→∃b o,A=some ⟨b,o,none⟩∧b<w.heap.size∧∀j (h:j<l.length),w.cell? ⟨b,o+j*4,none⟩=some (.int .i64 l[j].k)∧w.cell? ⟨b,o+j*4+1,none⟩=some (.string ⟨l[j].t.toArray⟩)∧w.cell? ⟨b,o+j*4+2,none⟩=some (.int .i64 l[j].v)∧w.cell? ⟨b,o+j*4+3,none⟩=some (.int .i64 l[j].at_)
theorem RdT.below {w w':World} {A:Option Addr} {c:Nat} {l:List Tok} {B:Nat} (h:RdT w A c l) (hb:Below B w w') (hB:w.heap.size≤B):RdT w' A c l:=
 ⟨h.room,h.cap,fun hn=>by
  obtain ⟨b,o,hA,hlt,hc⟩:=h.at_ hn;have hx:∀k,w'.cell? ⟨b,k,none⟩=w.cell? ⟨b,k,none⟩:=fun k=>hb.cell (p:=⟨b,k,none⟩) (show b<B by omega);refine ⟨b,o,hA,Nat.lt_of_lt_of_le hlt (hb.size),fun j hj=> ?_⟩;simp only[hx];exact hc j hj⟩
theorem RdT.nil {w:World} {A:Option Addr} {c:Nat} (h:c≤maxLen):RdT w A c []:=⟨Nat.zero_le _,h,fun e=>absurd rfl e⟩
theorem tcells_at (l:List Tok) (j:Nat) (h:j<l.length):(tvals l)[j*4]? =some (.int .i64 l[j].k)∧(tvals l)[j*4+1]? =some (.string ⟨l[j].t.toArray⟩)∧(tvals l)[j*4+2]? =some (.int .i64 l[j].v)∧(tvals l)[j*4+3]? =some (.int .i64 l[j].at_):=by
 induction l generalizing j with
 |nil=>cases h
 |cons t l ih=>
  have e:tvals (t::l)=tcells t++tvals l:=rfl;rw[e];cases j with
  |zero=>exact ⟨rfl,rfl,rfl,rfl⟩
  |succ j=>
   have h2:=ih j (by simpa using h);have e4:(tcells t).length=4:=rfl;have hx:∀k,(tcells t++tvals l)[(j+1)*4+k]? =(tvals l)[j*4+k]? :=fun k=>by
    rw[List.getElem?_append_right (by rw[e4];omega),e4];congr 1;omega
   have h0:=hx 0;rw[Nat.add_zero,Nat.add_zero]at h0;rw[h0,hx 1,hx 2,hx 3];exact h2
theorem OwnT.rd {w:World} {base:Nat} {ty:TypeId} {v:Value} {l:List Tok} (h:OwnT w base ty v l):∃A c,v= .slice A l.length c∧RdT w A c l:=by
 obtain ⟨_,h2⟩:=h;rcases h2 with ⟨h2,h3⟩|⟨g,cap,cur,hv,hg,hb,hn,hc,hs,ht⟩
 ·refine ⟨none,0,by rw[h2,h3],?_⟩;rw[List.length_eq_zero_iff.1 h3];exact RdT.nil (Nat.zero_le _)
 ·refine ⟨_,_,hv,hn,hc,fun _=>⟨g,0,rfl,(Array.getElem?_eq_some_iff.1 hb).1,fun j hj=> ?_⟩⟩;have hx:∀k,k<4→w.cell? ⟨g,0+j*4+k,none⟩=(tvals l)[j*4+k]? :=fun k hk=>by
   rw[cell_of_row w g _ cur ty (0,0) hb,←ht,List.getElem?_take_of_lt (by omega)];simp
  have h0:=hx 0 (by decide);rw[Nat.add_zero,Nat.add_zero]at h0;obtain ⟨t1,t2,t3,t4⟩:=tcells_at l j hj;exact ⟨h0.trans t1,(hx 1 (by decide)).trans t2,(hx 2 (by decide)).trans t3,(hx 3 (by decide)).trans t4⟩
end Go.Proofs.YtjlhjabgclflcaaGreatDoor
set_option linter.unusedSimpArgs false
set_option linter.unusedVariables false
namespace Go.Proofs.YtjlhjabgclflcaaGreatDoor
open Go.RowKit
structure Dt (α:Type) where
 P:(Nat→Prop)→World→Value→α→Prop
 mono:∀{F F':Nat→Prop} {w v a},(∀b,F b→F' b)→P F w v a→P F' w v a
 keep:∀{F:Nat→Prop} {w w':World} {v a},w.heap.size≤w'.heap.size→(∀b,F b→b<w.heap.size→w'.heap[b]? =w.heap[b]?)→P F w v a→P F w' v a
def Dt.eq {α:Type} (f:α→Value):Dt α:=⟨fun _ _ v a=>v=f a,fun _ h=>h,fun _ _ h=>h⟩
def Dt.via {α β:Type} (D:Dt β) (f:α→β):Dt α:=⟨fun F w v a=>D.P F w v (f a),fun h=>D.mono h,fun h1 h2=>D.keep h1 h2⟩
def Dt.any {α:Type}:Dt α:=⟨fun _ _ _ _=>True,fun _ h=>h,fun _ _ h=>h⟩
structure Lay (α:Type) where
 ty:TypeId
 sz:Nat
 C:Nat→Dt α
def Lay.row {α:Type} (L:Lay α):Dt (List α) where
 P F w v l:=∃A c,v= .slice A l.length c∧l.length≤c∧c≤maxLen∧(l≠[]→∃b o,A=some ⟨b,o,none⟩∧F b∧b<w.heap.size∧
  ∀j (h:j<l.length),∀k,k<L.sz→∃x,w.cell? ⟨b,o+j*L.sz+k,none⟩=some x∧(L.C k).P F w x l[j])
 mono:=by
  rintro F F' w v l hF ⟨A,c,h1,h2,h3,h4⟩;refine ⟨A,c,h1,h2,h3,fun hn=> ?_⟩;obtain ⟨b,o,h5,h6,h7,h8⟩:=h4 hn;exact ⟨b,o,h5,hF b h6,h7,fun j hj k hk=>by
   obtain ⟨x,hx,hp⟩:=h8 j hj k hk;exact ⟨x,hx,(L.C k).mono hF hp⟩⟩
 keep:=by
  rintro F w w' v l hs hF ⟨A,c,h1,h2,h3,h4⟩;refine ⟨A,c,h1,h2,h3,fun hn=> ?_⟩;obtain ⟨b,o,h5,h6,h7,h8⟩:=h4 hn;refine ⟨b,o,h5,h6,Nat.lt_of_lt_of_le h7 hs,fun j hj k hk=> ?_⟩;obtain ⟨x,hx,hp⟩:=h8 j hj k hk;exact ⟨x,by rw[World.cell?_of_block (hF b h6 h7)];exact hx,(L.C k).keep hs hF hp⟩
theorem Dt.below {α:Type} (D:Dt α) {F:Nat→Prop} {w w':World} {v:Value} {a:α} {B:Nat} (h:D.P F w v a) (hb:Below B w w') (hB:w.heap.size≤B):D.P F w' v a:=
 D.keep hb.size (fun b _ hlt=>hb.block b (by omega)) h
theorem Dt.grown {α:Type} (D:Dt α) {F:Nat→Prop} {w w':World} {v:Value} {a:α} {row:Option Nat} (h:D.P F w v a) (hg:w.grownBy w' row) (hF:∀b,F b→some b≠row):D.P F w' v a:=
 D.keep hg.size (fun b hb hlt=>hg.block b hlt (hF b hb)) h
theorem Lay.row_nil {α:Type} {L:Lay α} {F:Nat→Prop} {w:World} {A:Option Addr} {c:Nat} (h:c≤maxLen):L.row.P F w (.slice A 0 c) []:=⟨A,c,rfl,Nat.zero_le _,h,fun e=>absurd rfl e⟩
theorem Lay.row_len {α:Type} {L:Lay α} {F:Nat→Prop} {w:World} {v:Value} {l:List α} (h:L.row.P F w v l):∃A c,v= .slice A l.length c:=by
 obtain ⟨A,c,h1,_⟩:=h;exact ⟨A,c,h1⟩
def inF (base:Nat) (w:World) (v:Value):Nat→Prop:=fun b=>base≤b∧b<w.heap.size∧v.ownBlock≠some b
def since (base:Nat) (w:World):Nat→Prop:=fun b=>base≤b∧b<w.heap.size
def Lay.own {α:Type} (L:Lay α) (base:Nat) (w:World) (v:Value) (l:List α):Prop:=
 ∃xs:List Value,w.ownsRow base L.ty L.sz v l.length xs∧(∀u∈xs,u.oneCell'=true)∧∀j (h:j<l.length),∀k,k<L.sz→∃x,xs[j*L.sz+k]? =some x∧(L.C k).P (inF base w v) w x l[j]
theorem Lay.own_nil {α:Type} (L:Lay α) (base:Nat) (w:World):L.own base w (.slice none 0 0) []:=⟨[],World.ownsRow_nil w base L.ty L.sz,fun u h=>absurd h List.not_mem_nil,fun j h=>absurd h (Nat.not_lt_zero _)⟩
theorem Lay.own_len {α:Type} {L:Lay α} {base:Nat} {w:World} {v:Value} {l:List α} (h:L.own base w v l):∃A c,v= .slice A l.length c:=by
 obtain ⟨xs,⟨_,h2⟩,_⟩:=h;rcases h2 with ⟨h2,h3⟩|⟨g,cap,cur,hv,_⟩
 ·exact ⟨none,0,by rw[h2,h3]⟩
 ·exact ⟨_,_,hv⟩
theorem Lay.own_lt {α:Type} {L:Lay α} {base:Nat} {w:World} {v:Value} {l:List α} (h:L.own base w v l):∀g,v.ownBlock=some g→base≤g∧g<w.heap.size:=by
 obtain ⟨xs,h,_⟩:=h;exact fun g hg=>⟨(World.ownsRow.lt h g hg).1,(World.ownsRow.lt h g hg).2⟩
theorem Lay.own_grown {α:Type} {L:Lay α} {base:Nat} {w w':World} {v:Value} {l:List α} {row:Option Nat} (h:L.own base w v l) (hg:w.grownBy w' row) (hne:∀g,row=some g→g<base):L.own base w' v l:=by
 obtain ⟨xs,h1,h1',h2⟩:=h;have hv:v.ownBlock=none∨v.ownBlock≠row:=by
  cases hb:v.ownBlock with
  |none=>exact Or.inl rfl
  |some g=>
   refine Or.inr fun e=> ?_;have:=hne g e.symm;have:=(World.ownsRow.lt h1 g hb).1;omega
 refine ⟨xs,World.ownsRow.kept h1 hg hv,h1',fun j hj k hk=> ?_⟩;obtain ⟨x,hx,hp⟩:=h2 j hj k hk;refine ⟨x,hx,(L.C k).mono (fun b hb=>⟨hb.1,Nat.lt_of_lt_of_le hb.2.1 hg.size,hb.2.2⟩) ((L.C k).grown hp hg fun b hb e=> ?_)⟩;have:=hne b e.symm;have:=hb.1;omega
theorem grown_of_below {w w':World} (h:Below w.heap.size w w'):w.grownBy w' none:=⟨h.os,h.tape,h.output,h.size,fun b hb _=>h.block b hb⟩
theorem Lay.own_below {α:Type} {L:Lay α} {base:Nat} {w w':World} {v:Value} {l:List α} (h:L.own base w v l) (hb:Below w.heap.size w w'):L.own base w' v l:=
 Lay.own_grown h (grown_of_below hb) (fun g e=>by cases e)
theorem Lay.own_row {α:Type} {L:Lay α} {base:Nat} {w:World} {v:Value} {l:List α} (h:L.own base w v l):L.row.P (since base w) w v l:=by
 obtain ⟨xs,h1,h1',h2⟩:=h;obtain ⟨_,h3⟩:=h1;rcases h3 with ⟨rfl,h3⟩|⟨g,cap,cur,rfl,hg,hb,hn,hc,hs,ht⟩
 ·rw[List.length_eq_zero_iff.1 h3];exact Lay.row_nil (Nat.zero_le _)
 ·have hgl:g<w.heap.size:=(Array.getElem?_eq_some_iff.1 hb).1;refine ⟨_,_,rfl,hn,hc,fun _=>⟨g,0,rfl,⟨hg,hgl⟩,hgl,fun j hj k hk=> ?_⟩⟩;obtain ⟨x,hx,hp⟩:=h2 j hj k hk;refine ⟨x,?_,(L.C k).mono (fun b hb=>⟨hb.1,hb.2.1⟩) hp⟩;rw[cell_of_row w g _ cur L.ty (0,0) hb,←hx,←ht];have hlt:j*L.sz+k<l.length*L.sz:=by
   have:(j+1)*L.sz≤l.length*L.sz:=Nat.mul_le_mul_right _ hj;rw[Nat.add_mul,Nat.one_mul]at this;omega
  rw[List.getElem?_take_of_lt hlt];simp
theorem wpList_wanted {P:Program} {ops:Array Oper} {Q:Exit→Act→World→Prop} {a:Act} {w:World} {rest:List Oper} {o:Oper} (hw:Region.wanted o (yielded ops a.tmps)=true) (h:∀K:Act→World→Prop,(∀a w,wpList P ops Q rest a w→K a w)→o.wp P a w K Q):wpList P ops Q (o::rest) a w:=
 wpList_step fun K hK=>by rw[if_pos hw];exact h K hK
theorem Lay.wp_app {α:Type} (L:Lay α) {P:Program} {ops:Array Oper} {rest:List Oper} {o:Oper} {a:Act} {Q:Exit→Act→World→Prop} (s x:Operand) (w:World) (base:Nat) (v:Value) (l:List α) (y:α) (news:Array Value) {N sl bytes:Nat} {z:Value} (hN:N=w.heap.size) (hu:P.underlying sl=some (.slice L.ty)) (hinfo:(P.info? L.ty).map (fun i=>(i.zero,i.size,i.bytes))=some (some z,L.sz,bytes)) (hz:z.cells.size=L.sz) (hpos:0<L.sz) (hbt:bytes≤1000) (hown:L.own base w v l) (hb:base≤w.heap.size) (hlen:l.length≤1000000) (hnl:news.size=L.sz) (hn1:news.toList.all (·.oneCell')=true) (hnew:∀k,k<L.sz→∃x,news.toList[k]? =some x∧(L.C k).P (inF base w v) w x y) (hw:Region.wanted o (yielded ops a.tmps)=true) (ho:o.op= .call {callee:= .builtin .append,args:= #[s,x],argTypes:= #[sl,sl]}) (hs:a.eval s=v) (hx:a.eval x= .slice (some ⟨N,0,none⟩) 1 1) (K:∀v' w',L.own base w' v' (l++[y])→w.grownBy w' v.ownBlock→Below base w w'→(v'.ownBlock=v.ownBlock∨∀g,v'.ownBlock=some g→w.heap.size≤g)→wpList P ops Q rest (a.put o.dst v') w'):wpList P ops Q (o::rest) a (w.alloc (.cells news L.ty)):=by
 subst hN;obtain ⟨xs,h1,h1',h2⟩:=hown;obtain ⟨i0,hi,hz0,hz1,hz2⟩:=info_parts hinfo;have hsz:(w.alloc (.cells news L.ty)).heap.size=w.heap.size+1:=by simp
 have hk:=Blk.new w L.ty news;refine wpList_wanted hw fun KK hKK=> ?_;obtain ⟨v',w',hr,r1,r2,_,r3⟩:=run_append_own_at (P:=P) (w.alloc (.cells news L.ty)) base sl o.type L.ty i0 z L.sz bytes hu hi hz0 hz1 hz2 hz hpos v l.length xs (World.ownsRow.alloc h1 _) ⟨w.heap.size,0,none⟩ 1 1 news.toList (by simpa using hnl)
  (by
   intro j u hj;rw[show (⟨w.heap.size,0,none⟩:Addr).add j=⟨w.heap.size,j,none⟩ by simp[Addr.add];exact fun e=>e.symm,hk.cell j,←hj];simp)
  (fun u hu=>List.all_eq_true.1 hn1 u hu) (by unfold maxLen;omega) (Nat.le_trans (Nat.mul_le_mul_left _ hbt) (by omega)) (by rw[hsz];omega)
 unfold Oper.wp execOp;simp only[ho,resolve,invoke,builtin,Sem.run_bind,Sem.run_pure,Result.andThen_ok,List.map_toArray,List.map_cons,List.map_nil,hs,hx,hr];have hg:w.grownBy w' v.ownBlock:=⟨r2.os,r2.tape,r2.output,by have:=r2.size;rw[hsz]at this;omega,fun k hk hne=>by
  rw[r2.block k (by rw[hsz];omega) hne];exact Below.heap_alloc w _ k hk⟩
 have hat:v'.ownBlock=v.ownBlock∨∀g,v'.ownBlock=some g→w.heap.size≤g:=by
  rcases r3 with r3|r3
  ·exact Or.inl r3
  ·refine Or.inr fun g e=> ?_;rw[r3,hsz]at e;injection e with e;omega
 have hF:∀b,inF base w v b→inF base w' v' b:=fun b hb=>⟨hb.1,Nat.lt_of_lt_of_le hb.2.1 hg.size,fun e=>by
  rcases hat with e2|e2
  ·exact hb.2.2 (e2.symm.trans e)
  ·have:=e2 b e;have:=hb.2.1;omega⟩
 have hup:∀(k:Nat) (u:Value) (t:α),(L.C k).P (inF base w v) w u t→(L.C k).P (inF base w' v') w' u t:=fun k u t h=>
  (L.C k).mono hF ((L.C k).grown h hg fun b hb e=>hb.2.2 e.symm)
 refine hKK _ _ (K v' w' ⟨xs++news.toList,by rw[List.length_append];exact r1,fun u hu=> ?_,fun j hj k hk=> ?_⟩ hg ((Below.refl base w).grown hg hb (fun k hk=>(World.ownsRow.lt h1 k hk).1)) hat)
 ·rcases List.mem_append.1 hu with hu|hu
  ·exact h1' u hu
  ·exact List.all_eq_true.1 hn1 u hu
 ·have hxl:xs.length=l.length*L.sz:=h1.1;by_cases hjl:j<l.length
  ·obtain ⟨u,hu,hp⟩:=h2 j hjl k hk;refine ⟨u,?_,?_⟩
   ·rw[List.getElem?_append_left (by
     have:(j+1)*L.sz≤l.length*L.sz:=Nat.mul_le_mul_right _ hjl;rw[Nat.add_mul,Nat.one_mul]at this;omega)]
    exact hu
   ·rw[List.getElem_append_left hjl];exact hup k u _ hp
  ·have hj2:j=l.length:=by rw[List.length_append,List.length_singleton]at hj;omega
   subst hj2;obtain ⟨u,hu,hp⟩:=hnew k hk;refine ⟨u,?_,?_⟩
   ·rw[List.getElem?_append_right (by omega),hxl,Nat.add_sub_cancel_left];exact hu
   ·simp only[List.getElem_append_right (Nat.le_refl _),Nat.sub_self,List.getElem_singleton];exact hup k u _ hp
end Go.Proofs.YtjlhjabgclflcaaGreatDoor

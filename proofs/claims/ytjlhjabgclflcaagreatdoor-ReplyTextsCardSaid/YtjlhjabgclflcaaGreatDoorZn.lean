/-
  Joined texts: Zm, FrameO, Zn.
-/
import Derived.Test.YtjlhjabgclflcaaGreatDoorZl
import Derived.Test.YtjlhjabgclflcaaGreatDoorVl
import Derived.Lib.SmallJoins
import Derived.Handed
import Derived.Shelf.Vars
import Derived.Lib.ParseIntBTie
set_option maxHeartbeats 8000000
set_option maxRecDepth 100000
set_option linter.unusedSimpArgs false
set_option linter.unusedVariables false
namespace Go.Proofs.YtjlhjabgclflcaaGreatDoor
open Go.RowKit Num Go.Joins
def verV (k:Int) (B:Option Addr) (n d:Nat) (nodes:Int):Value:= .agg #[.int .i64 k,.slice B n d,.int .i64 nodes]
theorem reply_no {outs:List Ot} {k:Int} {a:List Int} (h1:¬k=1) (h4:¬k=4) (h2:¬k=2) (h3:¬k=3):replyT outs k a=([],2):=by
 unfold replyT;rw[if_neg h1,if_neg h4,if_neg (by omega)]
theorem reply_bad {outs:List Ot} {k:Int} {a:List Int} (hk:k=2∨k=3) (h:rightS outs a=false):replyT outs k a=([],2):=by
 unfold replyT;rw[if_neg (by omega),if_neg (by omega),if_pos hk];unfold rightS at h;cases ho:ownO a outs with
 |none=>rfl
 |some vs=>
  rw[ho]at h;dsimp only at h⊢;rw[if_neg (by rw[h];decide)]
theorem reply_good {outs:List Ot} {k:Int} {a:List Int} (hk:k=2∨k=3) (h:rightS outs a=true) {vs:List (List Int)} (hv:ownO a outs=some vs):replyT outs k a=(linesG (outs.zip vs)++endS k,0):=by
 unfold replyT;rw[if_neg (by omega),if_neg (by omega),if_pos hk];unfold rightS at h;rw[hv]at h⊢;dsimp only at h⊢;rw[if_pos h,linesG_zip]
theorem right_own {outs:List Ot} {a:List Int} (h:rightS outs a=true):ownO a outs≠none:=fun e=>by
 unfold rightS at h;rw[e]at h;cases h
theorem valsO_mem {a:List Int}:∀{xs v:List Int},valsO a xs=some v→∀n∈v,n∈a
 |[],v,h=>by
  obtain rfl:=Option.some.inj h;intro n hn;cases hn
 |x::xs,v,h=>by
  have h':(valO a x).bind (fun v=>(valsO a xs).map (v::·))=some v:=h;cases hx:valO a x with
  |none=>rw[hx]at h';cases h'
  |some n=>
   cases hv:valsO a xs with
   |none=>rw[hx,hv]at h';cases h'
   |some u=>
    rw[hx,hv]at h';obtain rfl:=Option.some.inj h';intro m hm;rcases List.mem_cons.1 hm with rfl|hm
    ·unfold valO at hx;split at hx
     ·exact List.mem_of_getElem? hx
     ·cases hx
    ·exact valsO_mem hv m hm
theorem ownO_mem {a:List Int}:∀{l:List Ot} {vs:List (List Int)},ownO a l=some vs→∀p∈l.zip vs,valsO a p.1.x=some p.2
 |[],v,h=>by
  intro p hp;simp at hp
 |x::xs,v,h=>by
  have h':(valsO a x.x).bind (fun v=>(ownO a xs).map (v::·))=some v:=h;cases hx:valsO a x.x with
  |none=>rw[hx]at h';cases h'
  |some n=>
   cases hv:ownO a xs with
   |none=>rw[hx,hv]at h';cases h'
   |some u=>
    rw[hx,hv]at h';obtain rfl:=Option.some.inj h';intro m hm;rw[List.zip_cons_cons]at hm;rcases List.mem_cons.1 hm with rfl|hm
    ·exact hx
    ·exact ownO_mem hv m hm
theorem below_transB {w w1 w2:World} (h:Below w.heap.size w w1) (h2:Below w1.heap.size w1 w2):Below w.heap.size w w2:=below_trans h h2
theorem rtxt_any {F G:Nat→Prop} (A:Option Addr) (c:Nat) (l:List Ot) (k:Int) (B:Option Addr) (d:Nat) (a:List Int) (nodes:Int) (w:World) (hE:Env w) (ho:(layO 46 3).row.P F w (.slice A l.length c) l) (ha:(layN 2).row.P G w (.slice B a.length d) a) (hn:FewO l) (han:a.length≤100000) (har:RngN a):Calls Tryz.prog 8 #[.slice A l.length c,verV k B a.length d nodes] w fun e w'=>e= .returned (TEV (replyT l k a))∧Below w.heap.size w w':=by
 have HR:=Lib.hid (fun (w':World) (q:Below w.heap.size w w')=>thright_any A c l B d a w' (hE.below q) (Dt.below _ ho q (Nat.le_refl _)) (Dt.below _ ha q (Nat.le_refl _)) hn han);have HC:=Lib.hid (fun (w':World) (q:Below w.heap.size w w')=>rthings_any A c l B d a w' (Dt.below _ ho q (Nat.le_refl _)) (Dt.below _ ha q (Nat.le_refl _)) hn.1 (fun o ho=>(hn.2 o ho).2) han);have HF:Hid (∀vs,ownO a l=some vs→∀p∈l.zip vs,(lineS p.1 p.2).length≤300000∧p.1.name.length≤10000∧p.1.x.length≤10000∧p.2.length≤10000∧RngN p.2):=by
  show ∀vs,_;intro vs hv p hp;have h1:=ownO_mem hv p hp;obtain ⟨o,v⟩:=p;obtain ⟨g1,g2⟩:=hn.2 o (List.of_mem_zip hp).1;have g3:=valsO_len h1;have g4:RngN v:=fun n hn=>har n (valsO_mem h1 n hn);dsimp only at*;exact ⟨lineS_len g1 (by omega) (by omega) g4,g1,by omega,by omega,g4⟩
 have hnl:=hn.1;have q0:=below_alloc1 w (.cells #[.int .i64 k,.slice B a.length d,.int .i64 nodes] 33);have hb0:=Blk.new w 33 #[.int .i64 k,.slice B a.length d,.int .i64 nodes];clear ho ha hn han har;unfold verV;by_cases h1:k=1
 ·subst h1;go_enter Tryz.func8,Tryz.ntmps8;go_wp2_with fail;refine bodyPost_ret (v:=TEV (unsatS,0)) (by simp[results,Tryz.results8,go_sem,TEV,unsatS,unknownS]) rfl ?_;exact ⟨rfl,q0⟩
 ·by_cases h4:k=4
  ·subst h4;go_enter Tryz.func8,Tryz.ntmps8;go_wp2_with fail;refine bodyPost_ret (v:=TEV (unknownS,0)) (by simp[results,Tryz.results8,go_sem,TEV,unsatS,unknownS]) rfl ?_;exact ⟨rfl,q0⟩
  ·by_cases h2:k=2
   ·subst h2;clear h1 h4;have HBad:=Lib.hid (fun (h:rightS l a=false)=>reply_bad (outs:=l) (k:=2) (a:=a) (by decide) h);have HGood:=Lib.hid (fun (h:rightS l a=true) vs (hv:ownO a l=some vs)=>reply_good (outs:=l) (k:=2) (a:=a) (by decide) h hv);go_enter Tryz.func8,Tryz.ntmps8;go_wp2_with fail;refine (HR.out _ q0).mono ?_;rintro e w1 ⟨rfl,q1⟩;have q2:=below_trans q0 q1;obtain ⟨e0,e1,e2⟩:=(hb0.below q1 (Nat.le_refl _)).three;cases hok:rightS l a with
    |false=>
     have HZ:=Lib.hid (HBad.out hok);clear hok;go_wp2_with fail;refine bodyPost_ret (v:=TEV ([],2)) (by simp[results,Tryz.results8,go_sem,TEV,unsatS,unknownS]) rfl ?_;exact ⟨by rw[HZ.out],q2⟩
    |true=>
     go_wp2_with fail;refine (HC.out _ q2).mono ?_;rintro e w2 ⟨⟨hn,rfl⟩|⟨vs,v,hv,rfl,hown⟩,q3⟩
     ·exact absurd hn (right_own hok)
     ·have HZ:=Lib.hid (HGood.out hok vs hv);have HZ2:=Lib.hid (HF.out vs hv);have q4:=below_trans q2 q3;have hb2:=(hb0.below q1 (Nat.le_refl _)).below q3 (Nat.le_refl _);have hlz:(l.zip vs).length≤100:=by rw[List.length_zip];omega
      clear hok hv;generalize l.zip vs=lz at*;obtain ⟨A9,c9,rfl⟩:=Lay.own_len hown;have hrow:=Lay.own_row hown;clear hown e0 e1 e2;have HLZ:=Lib.hid hlz;clear hlz;generalize hk:decide (l.length≤64)=bb at*;clear hk;go_wp2_with fail;go_loopg [34] lz.length (fun k p wr=>∃(j:Nat),k=lz.length-j∧j≤lz.length∧p= .int .i64 (j:Nat)∧Lib.IsBuilder 54 5 w2.heap.size w2.heap.size (Lib.byteCells (linesG (lz.take j))) wr∧Below w2.heap.size w2 wr)
      case atStart=>exact ⟨0,rfl,Nat.zero_le _,rfl,Lib.fresh_isBuilder _ _ w2,below_alloc1 w2 _⟩
      case round=>
       obtain ⟨j,hk,hj,rfl,hB,hbl⟩:=hrel;have hlz3:lz.length≤100:=HLZ.out;have hlen:=linesG_len (l:=lz.take j) (fun p hp=>(HZ2.out p (List.mem_of_mem_take hp)).1);have hlen2:(lz.take j).length≤100:=Nat.le_trans (by rw[List.length_take];omega) HLZ.out;by_cases hlt:j<lz.length
       ·have d1:decide ((j:Int)<(lz.length:Int))=true:=decide_eq_true (by omega);obtain ⟨b,o,hA,hb1,hc⟩:=row_g (Dt.below _ hrow hbl (Nat.le_refl _)) (lt_ne hlt);obtain ⟨f0,f1,f2,⟨A3,n3,f3⟩,A4,n4,f4,hxv⟩:=hc j hlt;subst hA;clear hc;have HS:=Lib.hid ((congrArg linesG (List.take_succ_eq_append_getElem hlt)).trans (linesG_snoc _ _));obtain ⟨g1,g2,g3,g4,g5⟩:=HZ2.out lz[j] (List.getElem_mem hlt);have HI:=Lib.hid (fun (w':World) (hE':Env w') (q:Below wr.heap.size wr w')=>rline_any lz[j].1 lz[j].2 A3 n3 A4 n4 w' hE' g2 g3 g4 g5 (Dt.below _ hxv q (Nat.le_refl _)));clear hxv g2 g3 g4 g5;unfold thV at HI;have HG1:=Lib.hid g1;clear g1;generalize lz[j]=x at*;obtain ⟨⟨xn,xb,xa,xx⟩,xv⟩:=x;dsimp only at f0 f1 f2 f3 f4 HI;have q5:=below_alloc1 wr (.cells #[.string ⟨xn.toArray⟩,.bool xb,.bool xa,.slice A3 xx.length n3,.slice A4 xv.length n4] 56);have hbl2:=below_trans hbl q5;have hB2:=bu_below hB q5;have HP:=Lib.hid hlen;clear hlen;go_wp2_with fail;refine (HI.out _ (hE.below (below_trans q4 hbl2)) q5).mono ?_;rintro e w3 ⟨rfl,q6⟩;have hB3:=bu_below hB2 q6;have hbl3:=below_trans hbl2 q6;clear f0 f1 f2 f3 f4 HI q5 q6 hB hB2 hbl hbl2;have hg1:=HG1.out;have hp1:=HP.out;try dsimp only at hg1
        generalize lineS ⟨xn,xb,xa,xx⟩ xv=t at*;have hsz:(⟨t.toArray⟩:ByteArray).size≤300000:=hg1;have hsc:Hid (Lib.strCells ⟨t.toArray⟩=Lib.byteCells t):=Lib.strCells_toArray t;generalize (⟨t.toArray⟩:ByteArray)=S at*;go_wp2_with fail;refine (wstr_any w2.heap.size w2.heap.size _ S w3 hB3 (by rw[Lib.byteCells_length];omega) hbl3.size).mono ?_;rintro e w5 ⟨rfl,hB5,q7⟩;have hbl5:=hbl3.trans q7;go_wp2_with fail;go_roundg (lz.length-(j+1))
        case measure=>omega
        case rel=>
         refine ⟨j+1,rfl,by omega,by simp,Or.inr ?_,hbl5⟩;rw[hsc.out]at hB5;rw[HS.out,Lib.byteCells_append];exact hB5
       ·have d1:decide ((j:Int)<(lz.length:Int))=false:=decide_eq_false (by omega);have e1:lz.take j=lz:=List.take_of_length_le (by omega);rw[e1]at hB hlen hlen2;clear e1 hrow;generalize linesG lz=u at*;have hDl:Hid (Lib.strCells ⟨#[45,45,45,45,45,45,45,45,45,45,10]⟩=Lib.byteCells dashesS):=Lib.strCells_toArray dashesS;have hEl:Hid (Lib.strCells ⟨#[61,61,61,61,61,61,61,61,61,61,10]⟩=Lib.byteCells equalsS):=Lib.strCells_toArray equalsS;go_wp2_with fail;refine (wstr_any w2.heap.size w2.heap.size _ ⟨#[45,45,45,45,45,45,45,45,45,45,10]⟩ wr hB (by rw[Lib.byteCells_length];show _+11≤_;omega) hbl.size).mono ?_;rintro e w5 ⟨rfl,hB5,q7⟩;have hbl5:=hbl.trans q7;rw[hDl.out,←Lib.byteCells_append]at hB5;obtain ⟨e0,e1,e2⟩:=(hb2.below hbl5 (Nat.le_refl _)).three;go_wp2_with fail;refine (Any.Builder_String_any_f Tryz.lays169 Tryz.Builder_Extra_169 w2.heap.size w2.heap.size _ _ (Lib.IsBuilderF.of (Or.inr hB5)) (by first|exact hbl5.size|exact hbl6.size)).mono ?_;rintro e w7 ⟨rfl,hB7,q9⟩;go_wp2_with fail;refine bodyPost_ret (v:=TEV (u++dashesS,0)) (by simp[results,Tryz.results8,go_sem,TEV,unsatS,unknownS]) rfl ?_;exact ⟨by rw[HZ.out];rfl,below_transB q4 (hbl5.trans q9)⟩
   ·by_cases h3:k=3
    ·subst h3;clear h1 h4 h2;have HBad:=Lib.hid (fun (h:rightS l a=false)=>reply_bad (outs:=l) (k:=3) (a:=a) (by decide) h);have HGood:=Lib.hid (fun (h:rightS l a=true) vs (hv:ownO a l=some vs)=>reply_good (outs:=l) (k:=3) (a:=a) (by decide) h hv);go_enter Tryz.func8,Tryz.ntmps8;go_wp2_with fail;refine (HR.out _ q0).mono ?_;rintro e w1 ⟨rfl,q1⟩;have q2:=below_trans q0 q1;obtain ⟨e0,e1,e2⟩:=(hb0.below q1 (Nat.le_refl _)).three;cases hok:rightS l a with
     |false=>
      have HZ:=Lib.hid (HBad.out hok);clear hok;go_wp2_with fail;refine bodyPost_ret (v:=TEV ([],2)) (by simp[results,Tryz.results8,go_sem,TEV,unsatS,unknownS]) rfl ?_;exact ⟨by rw[HZ.out],q2⟩
     |true=>
      go_wp2_with fail;refine (HC.out _ q2).mono ?_;rintro e w2 ⟨⟨hn,rfl⟩|⟨vs,v,hv,rfl,hown⟩,q3⟩
      ·exact absurd hn (right_own hok)
      ·have HZ:=Lib.hid (HGood.out hok vs hv);have HZ2:=Lib.hid (HF.out vs hv);have q4:=below_trans q2 q3;have hb2:=(hb0.below q1 (Nat.le_refl _)).below q3 (Nat.le_refl _);have hlz:(l.zip vs).length≤100:=by rw[List.length_zip];omega
       clear hok hv;generalize l.zip vs=lz at*;obtain ⟨A9,c9,rfl⟩:=Lay.own_len hown;have hrow:=Lay.own_row hown;clear hown e0 e1 e2;have HLZ:=Lib.hid hlz;clear hlz;generalize hk:decide (l.length≤64)=bb at*;clear hk;go_wp2_with fail;go_loopg [34] lz.length (fun k p wr=>∃(j:Nat),k=lz.length-j∧j≤lz.length∧p= .int .i64 (j:Nat)∧Lib.IsBuilder 54 5 w2.heap.size w2.heap.size (Lib.byteCells (linesG (lz.take j))) wr∧Below w2.heap.size w2 wr)
       case atStart=>exact ⟨0,rfl,Nat.zero_le _,rfl,Lib.fresh_isBuilder _ _ w2,below_alloc1 w2 _⟩
       case round=>
        obtain ⟨j,hk,hj,rfl,hB,hbl⟩:=hrel;have hlz3:lz.length≤100:=HLZ.out;have hlen:=linesG_len (l:=lz.take j) (fun p hp=>(HZ2.out p (List.mem_of_mem_take hp)).1);have hlen2:(lz.take j).length≤100:=Nat.le_trans (by rw[List.length_take];omega) HLZ.out;by_cases hlt:j<lz.length
        ·have d1:decide ((j:Int)<(lz.length:Int))=true:=decide_eq_true (by omega);obtain ⟨b,o,hA,hb1,hc⟩:=row_g (Dt.below _ hrow hbl (Nat.le_refl _)) (lt_ne hlt);obtain ⟨f0,f1,f2,⟨A3,n3,f3⟩,A4,n4,f4,hxv⟩:=hc j hlt;subst hA;clear hc;have HS:=Lib.hid ((congrArg linesG (List.take_succ_eq_append_getElem hlt)).trans (linesG_snoc _ _));obtain ⟨g1,g2,g3,g4,g5⟩:=HZ2.out lz[j] (List.getElem_mem hlt);have HI:=Lib.hid (fun (w':World) (hE':Env w') (q:Below wr.heap.size wr w')=>rline_any lz[j].1 lz[j].2 A3 n3 A4 n4 w' hE' g2 g3 g4 g5 (Dt.below _ hxv q (Nat.le_refl _)));clear hxv g2 g3 g4 g5;unfold thV at HI;have HG1:=Lib.hid g1;clear g1;generalize lz[j]=x at*;obtain ⟨⟨xn,xb,xa,xx⟩,xv⟩:=x;dsimp only at f0 f1 f2 f3 f4 HI;have q5:=below_alloc1 wr (.cells #[.string ⟨xn.toArray⟩,.bool xb,.bool xa,.slice A3 xx.length n3,.slice A4 xv.length n4] 56);have hbl2:=below_trans hbl q5;have hB2:=bu_below hB q5;have HP:=Lib.hid hlen;clear hlen;go_wp2_with fail;refine (HI.out _ (hE.below (below_trans q4 hbl2)) q5).mono ?_;rintro e w3 ⟨rfl,q6⟩;have hB3:=bu_below hB2 q6;have hbl3:=below_trans hbl2 q6;clear f0 f1 f2 f3 f4 HI q5 q6 hB hB2 hbl hbl2;have hg1:=HG1.out;have hp1:=HP.out;try dsimp only at hg1
         generalize lineS ⟨xn,xb,xa,xx⟩ xv=t at*;have hsz:(⟨t.toArray⟩:ByteArray).size≤300000:=hg1;have hsc:Hid (Lib.strCells ⟨t.toArray⟩=Lib.byteCells t):=Lib.strCells_toArray t;generalize (⟨t.toArray⟩:ByteArray)=S at*;go_wp2_with fail;refine (wstr_any w2.heap.size w2.heap.size _ S w3 hB3 (by rw[Lib.byteCells_length];omega) hbl3.size).mono ?_;rintro e w5 ⟨rfl,hB5,q7⟩;have hbl5:=hbl3.trans q7;go_wp2_with fail;go_roundg (lz.length-(j+1))
         case measure=>omega
         case rel=>
          refine ⟨j+1,rfl,by omega,by simp,Or.inr ?_,hbl5⟩;rw[hsc.out]at hB5;rw[HS.out,Lib.byteCells_append];exact hB5
        ·have d1:decide ((j:Int)<(lz.length:Int))=false:=decide_eq_false (by omega);have e1:lz.take j=lz:=List.take_of_length_le (by omega);rw[e1]at hB hlen hlen2;clear e1 hrow;generalize linesG lz=u at*;have hDl:Hid (Lib.strCells ⟨#[45,45,45,45,45,45,45,45,45,45,10]⟩=Lib.byteCells dashesS):=Lib.strCells_toArray dashesS;have hEl:Hid (Lib.strCells ⟨#[61,61,61,61,61,61,61,61,61,61,10]⟩=Lib.byteCells equalsS):=Lib.strCells_toArray equalsS;go_wp2_with fail;refine (wstr_any w2.heap.size w2.heap.size _ ⟨#[45,45,45,45,45,45,45,45,45,45,10]⟩ wr hB (by rw[Lib.byteCells_length];show _+11≤_;omega) hbl.size).mono ?_;rintro e w5 ⟨rfl,hB5,q7⟩;have hbl5:=hbl.trans q7;rw[hDl.out,←Lib.byteCells_append]at hB5;obtain ⟨e0,e1,e2⟩:=(hb2.below hbl5 (Nat.le_refl _)).three;go_wp2_with fail;refine (wstr_any w2.heap.size w2.heap.size _ ⟨#[61,61,61,61,61,61,61,61,61,61,10]⟩ _ (Or.inr hB5) (by rw[Lib.byteCells_length,List.length_append];show _+11+11≤_;omega) hbl5.size).mono ?_;rintro e w6 ⟨rfl,hB6,q8⟩;have hbl6:=hbl5.trans q8;rw[hEl.out,←Lib.byteCells_append]at hB6;go_wp2_with fail;refine (Any.Builder_String_any_f Tryz.lays169 Tryz.Builder_Extra_169 w2.heap.size w2.heap.size _ _ (Lib.IsBuilderF.of (Or.inr hB6)) (by first|exact hbl5.size|exact hbl6.size)).mono ?_;rintro e w7 ⟨rfl,hB7,q9⟩;go_wp2_with fail;refine bodyPost_ret (v:=TEV (u++dashesS++equalsS,0)) (by simp[results,Tryz.results8,go_sem,TEV,unsatS,unknownS]) rfl ?_;exact ⟨by rw[HZ.out];unfold endS;rw[if_pos rfl,List.append_assoc],below_transB q4 (hbl6.trans q9)⟩
    ·have HZ:=Lib.hid (reply_no (outs:=l) (a:=a) h1 h4 h2 h3);have h1':=int_ne0' h1;have h2':=int_ne0' h2;have h3':=int_ne0' h3;have h4':=int_ne0' h4;clear h1 h2 h3 h4;go_enter Tryz.func8,Tryz.ntmps8;go_wp2_with fail;refine bodyPost_ret (v:=TEV ([],2)) (by simp[results,Tryz.results8,go_sem,TEV,unsatS,unknownS]) rfl ?_;exact ⟨by rw[HZ.out],q0⟩
end Go.Proofs.YtjlhjabgclflcaaGreatDoor
set_option maxRecDepth 100000
set_option linter.unusedVariables false
namespace Go.Proofs.YtjlhjabgclflcaaGreatDoor
open Go.ChangeShapes Go.WideShapes Go.ChangeAt Go.RowKit Go.Joins Go.Deep Num
theorem handed_and_shaped {H : Type} {enc : TypeId × Value → H} {a : Assume} {C : Checked} {os : Os} {f : FuncId} {fn : Func} {s : ChangeSpec} {conds : List PathCond} {apart fresh handsOn again : Bool} {X : World → Array Value → Prop}
    (hX : ∀ (w w' : World) (args : Array Value), w.heap = w'.heap → X w args → X w' args)
    (own : ownKnob C.prog.godebug = none) (started : os.Started) (noInit : C.prog.inits.idxOf? f = none) (hfn : C.prog.funcs[f]? = some fn)
    (witness : ∃ (w : World) (tape : Tape) (i : Input), w.os = os ∧ (w.forCall tape i).Shaped C.prog ∧ i.vars = [] ∧ Input.okWide C.prog (w.forCall tape i) .any w.heap.size f i ∧
      ((s.pre enc C.prog fn conds apart (w.forCall tape i).memory i.args ∧ X (w.forCall tape i).memory i.args) ∧ sizedMet enc C.prog fn (OpenSpec.ofChange s) apart (w.forCall tape i).memory i.args) ∧ a.holds C.prog (lone (Frame.enter C.prog f i.args .normal) [] (w.forCall tape i)))
    (contract : ∀ (W : World) (base : Nat) (args : Array Value) (ds gs : List (DataW H)) (before : List MemPlace),
      (∀ (j : Nat) t v, fn.params[j]? = some t → args[j]? = some v → Value.okWide C.prog W .any base t v) →
      DataW.Whole enc C.prog fn.params.toList s.vars apart W args.toList ds gs before → X W args → W.ShapedOpen C.prog →
      Calls C.prog f args W fun e W' => ∃ v, e = .returned v ∧ s.post enc C.prog fn apart fresh handsOn again W args v W') :
    ReturnsInHanded a C os f .any (fun w args => (s.pre enc C.prog fn conds apart w args ∧ X w args) ∧ sizedMet enc C.prog fn (OpenSpec.ofChange s) apart w args) (s.post enc C.prog fn apart fresh handsOn again) := by
  refine returnsInHanded_of_calls own started noInit witness ?_
  intro w tape i _ hsh _ hok hpre _
  obtain ⟨_, _, _, fn', hfn', _, _, _, _, hval⟩ := hok
  have e : fn' = fn := Option.some.inj (hfn'.symm.trans hfn)
  subst e
  obtain ⟨⟨⟨ds, gs, before, hw, _⟩, hx⟩, _⟩ := hpre
  have hw' := DataW.Whole.of_heap (w' := w.forCall tape i) (by rfl) hw
  refine (contract (w.forCall tape i) w.heap.size i.args ds gs before hval hw' (hX _ _ _ (by rfl) hx) hsh).mono fun e W' ⟨v, he, hp⟩ => ?_
  subst he
  exact ChangeSpec.post_blind hp
theorem maxlen_of {w:World} (h:w.ShapedOpen Tryz.prog):∃m,w.cell? ⟨0,0,none⟩=some (.int .i64 m):=
 cell_of_shapedOpen_int (t:=3) (zero:= #[.int .i64 0]) h (of_decide_eq_true (by kernel_rfl)) (by kernel_rfl) rfl (by kernel_rfl) (by kernel_rfl) Tryz.underlying3
theorem open_n1 {H:Type} {enc:TypeId×Value→H} {W:World} {ty:TypeId} (hu:Tryz.prog.underlying ty=some (.int .i64)) (n:Nat) (cs:List Value) (y:DataW H×List MemPlace) (h:DataW.trod enc Tryz.prog W 0 (fun _=>true) true n ty cs=some y) (hl:cs.length=1):∃a:Int,I64 a∧∀k,k<1→∃x,cs[k]? =some x∧((layN ty).C k).P (fun _=>True) W x a:=by
 match cs,hl with
 |[a],_=>
  obtain ⟨i0,q0,_,w0⟩:=DataW.trod_int hu h;obtain rfl:a= .int .i64 i0:=by simpa using q0
  refine ⟨i0,range_of w0,fun k hk=> ?_⟩;match k,hk with
  |0,_=>exact ⟨_,rfl,rfl⟩
theorem open_ot {H:Type} {enc:TypeId×Value→H} {W:World} (n:Nat) (cs:List Value) (y:DataW H×List MemPlace) (h:DataW.trod enc Tryz.prog W 0 (fun _=>true) true n 45 cs=some y) (hl:cs.length=4):∃a:Ot,RngO a∧∀k,k<4→∃x,cs[k]? =some x∧((layO 45 3).C k).P (fun _=>True) W x a:=by
 match cs,hl with
 |[a,b,c,d],_=>
  obtain ⟨y0,y1,y2,y3,k,_,_,h0,h1,h2,h3⟩:=trod_struct4 Tryz.underlying45 h;have e1:Tryz.prog.cellsOf 9=1:=by kernel_rfl
  have e3:Tryz.prog.cellsOf 43=1:=by kernel_rfl
  have e4:Tryz.prog.cellsOf 4=1:=by kernel_rfl
  simp only[e1,e3,e4]at h0 h1 h2 h3;replace h0:DataW.trod enc Tryz.prog W 0 (fun _=>true) true k 9 [a]=some y0:=h0;replace h1:DataW.trod enc Tryz.prog W 0 (fun _=>true) true k 4 [b]=some y1:=h1;replace h2:DataW.trod enc Tryz.prog W 0 (fun _=>true) true k 4 [c]=some y2:=h2;replace h3:DataW.trod enc Tryz.prog W 0 (fun _=>true) true k 43 [d]=some y3:=h3;obtain ⟨s0,q0,_⟩:=DataW.trod_string Tryz.underlying9 h0;obtain ⟨b1,q1,_⟩:=DataW.trod_bool Tryz.underlying4 h1;obtain ⟨b2,q2,_⟩:=DataW.trod_bool Tryz.underlying4 h2;obtain rfl:a= .string s0:=by simpa using q0
  obtain rfl:b= .bool b1:=by simpa using q1
  obtain rfl:c= .bool b2:=by simpa using q2
  obtain ⟨A,xs,cd,hd,hrow,hq,-⟩:=open_lay (layN 3) I64 0 Tryz.underlying43 (by kernel_rfl) (by decide) (open_n1 Tryz.underlying3) h3;obtain rfl:d= .slice A xs.length cd:=by simpa using hd
  refine ⟨⟨s0.data.toList,b1,b2,xs⟩,hq,fun k hk=> ?_⟩;match k,hk with
  |0,_=>exact ⟨_,rfl,rfl⟩
  |1,_=>exact ⟨_,rfl,rfl⟩
  |2,_=>exact ⟨_,rfl,rfl⟩
  |3,_=>exact ⟨_,rfl,hrow⟩
theorem open_outs {H:Type} {enc:TypeId×Value→H} {W:World} {base:Nat} {v:Value} {d:DataW H} {p:List MemPlace} (hv:Value.okWide Tryz.prog W .any base 22 v) (h:DataW.Trod enc Tryz.prog W 0 (fun _=>true) true 22 v d p):∃(A:Option Addr) (l:List Ot) (c:Nat),v= .slice A l.length c∧(layO 45 3).row.P (fun _=>True) W (.slice A l.length c) l∧(∀x∈l,RngO x)∧(A=none→c=0):=by
 obtain ⟨A,len,cap,rfl⟩:=okWide_slice Tryz.underlying22 hv;obtain ⟨fuel,hf⟩:=h;obtain ⟨A',l,c,h1,h2,h3,h4⟩:=open_lay (layO 45 3) RngO ⟨[],false,false,[]⟩ Tryz.underlying22 (by kernel_rfl) (by decide) open_ot hf;have e:(Value.slice A len cap)= .slice A' l.length c:=by simpa[Value.cells]using h1
 exact ⟨A',l,c,e,h2,h3,h4⟩
theorem open_ver {H:Type} {enc:TypeId×Value→H} {W:World} {base:Nat} {v:Value} {d:DataW H} {p:List MemPlace} (hv:Value.okWide Tryz.prog W .any base 25 v) (h:DataW.Trod enc Tryz.prog W 0 (fun _=>true) true 25 v d p):∃(k:Int) (B:Option Addr) (a:List Int) (c:Nat) (nodes:Int),v=verV k B a.length c nodes∧(layN 2).row.P (fun _=>True) W (.slice B a.length c) a∧RngN a:=by
 obtain ⟨v0,v1,v2,y0,y1,y2,k,rfl,_,_,h0,h1,h2⟩:=open_agg3 Tryz.underlying25 (by kernel_rfl) (by kernel_rfl) hv h;obtain ⟨k0,q0,_,_⟩:=DataW.trod_int Tryz.underlying3 h0;obtain ⟨k2,q2,_,_⟩:=DataW.trod_int Tryz.underlying3 h2;obtain rfl:v0= .int .i64 k0:=by simpa using q0
 obtain rfl:v2= .int .i64 k2:=by simpa using q2
 obtain ⟨A,xs,cd,hd,hrow,hq,-⟩:=open_lay (layN 2) I64 0 Tryz.underlying23 (by kernel_rfl) (by decide) (open_n1 Tryz.underlying2) h1;obtain rfl:v1= .slice A xs.length cd:=by simpa using hd
 exact ⟨k0,A,xs,cd,k2,rfl,hrow,hq⟩
theorem envM_of {w:World} (h:Env w) (hs:w.ShapedOpen Tryz.prog):EnvM w:=⟨h,maxlen_of hs⟩
end Go.Proofs.YtjlhjabgclflcaaGreatDoor
set_option maxHeartbeats 4000000
set_option maxRecDepth 100000
set_option linter.unusedSimpArgs false
set_option linter.unusedVariables false
namespace Go.Proofs.YtjlhjabgclflcaaGreatDoor
open Go.RowKit Num Go.Joins
theorem value_n {w:List UInt8} (h:∀v,Lib.parseIntB 64 w≠.ok v):valueW false w=none:=by
 have e:valueW false w=match Lib.parseIntB 64 w with
  | .ok v=>if Lib.itoa v=w then some v else none
  |_=>none:=rfl
 rw[e];cases hp:Lib.parseIntB 64 w with
 |ok v=>exact absurd hp (h v)
 |_=>rfl
theorem value_p {w:List UInt8} {v:Int} (h:Lib.parseIntB 64 w= .ok v):valueW false w=if Lib.itoa v=w then some v else none:=by
 unfold valueW;simp only[Bool.false_eq_true,if_false];rw[h]
theorem parse_i64 {w:List UInt8} {v:Int} (h:Lib.parseIntB 64 w= .ok v):I64 v:=by
 have:=Lib.parseIntB_bounds h;exact ⟨by omega,by omega⟩
def ValR (b:Bool) (s:List UInt8) (e:Ending):Prop:=∃n bb,e= .returned (.tuple #[.int .i64 n,.bool bb])∧((bb=true∧I64 n∧valueW b s=some n)∨(bb=false∧valueW b s=none))
theorem rval_any (o:Ot) (A3:Option Addr) (c3:Nat) (A4:Option Addr) (n4 c4:Nat) (s:ByteArray) (hs:s.size≤8192) (w:World) (hE:Env w):Calls Tryz.prog 35 #[thV o A3 c3 A4 n4 c4,.string s] w fun e w'=>ValR o.bool s.data.toList e∧Below w.heap.size w w':=by
 obtain ⟨nm,b,arr,xs⟩:=o;unfold thV ValR;dsimp only;have q0:=below_alloc1 w (.cells #[.string ⟨nm.toArray⟩,.bool b,.bool arr,.slice A3 xs.length c3,.slice A4 n4 c4] 56);have hb0:=Blk.new w 56 #[.string ⟨nm.toArray⟩,.bool b,.bool arr,.slice A3 xs.length c3,.slice A4 n4 c4];by_cases hp:∃v,Lib.parseIntB 64 s.data.toList= .ok v
 ·obtain ⟨v,hv⟩:=hp;have HP:=Lib.hid (fun w':World=>parse_ok (w:=w') hv hs);have HI:=Lib.hid (parse_i64 hv);have HV0:=Lib.hid (value_p hv);clear hv hs;go_enter Tryz.func35,Tryz.ntmps35;go_wp2_with fail;refine (HP.out _).mono ?_;rintro e w1 ⟨rfl,q1⟩;have q2:=below_trans q0 q1;obtain ⟨c0,c1,c2,c3',c4'⟩:=(hb0.below q1 (Nat.le_refl _)).five;clear hb0 q0 q1;cases b with
  |true=>
   by_cases ht:s.data.toList=wTrue
   ·have d1:(s.toList==[116,114,117,101])=true:=by rw[ByteArray.toList_eq,ht];rfl
    have HX:=Lib.hid (fun (w':World) (h:Env w')=>thtext_any ⟨nm,true,arr,xs⟩ A3 c3 A4 n4 c4 1 (by constructor<;>decide) w' h);have HV:Hid (valueW true s.data.toList=some 1):=by
     show _=_;rw[ht];rfl
    have HE2:Hid (((⟨(wordV true 1).toArray⟩:ByteArray).toList==s.toList)=true):=by
     show _=_;rw[ByteArray.toList_eq,ByteArray.toList_eq,ht];rfl
    unfold thV at HX;dsimp only at HX;generalize (⟨(wordV true 1).toArray⟩:ByteArray)=S at*;clear ht;go_wp2_with fail;refine (HX.out _ (hE.below q2)).mono ?_;rintro e w3 ⟨rfl,q3⟩;have e2:=HE2.out;go_wp2_with fail;refine bodyPost_ret (v:= .tuple #[.int .i64 1,.bool true]) (by simp[results,Tryz.results35,go_sem]) rfl ?_;exact ⟨⟨_,_,rfl,.inl ⟨rfl,(by constructor<;>decide),HV.out⟩⟩,below_trans q2 q3⟩
   ·have d1:(s.toList==[116,114,117,101])=false:=by
     rw[ByteArray.toList_eq];exact beq_false_of_ne ht
    have HX:=Lib.hid (fun (w':World) (h:Env w')=>thtext_any ⟨nm,true,arr,xs⟩ A3 c3 A4 n4 c4 0 (by constructor<;>decide) w' h);have HV:Hid (∀bb,((⟨(wordV true 0).toArray⟩:ByteArray).toList==s.toList)=bb→(bb=true∧I64 0∧valueW true s.data.toList=some 0)∨(bb=false∧valueW true s.data.toList=none)):=by
     show ∀bb,_;intro bb hbb;rw[ByteArray.toList_eq,ByteArray.toList_eq]at hbb;unfold valueW;simp only[if_true];rw[if_neg ht];cases bb with
     |true=>
      have:=eq_of_beq hbb;have e:wordV true 0=wFalse:=rfl;refine .inl ⟨rfl,(by constructor<;>decide),if_pos ?_⟩;rw[←this];rfl
     |false=>
      refine .inr ⟨rfl,if_neg fun h=> ?_⟩;rw[h]at hbb;cases hbb
    unfold thV at HX;dsimp only at HX;generalize (⟨(wordV true 0).toArray⟩:ByteArray)=S at*;clear ht;go_wp2_with fail;refine (HX.out _ (hE.below q2)).mono ?_;rintro e w3 ⟨rfl,q3⟩;generalize he2:(S.toList==s.toList)=bb;go_wp2_with fail;refine bodyPost_ret (v:= .tuple #[.int .i64 0,.bool bb]) (by simp[results,Tryz.results35,go_sem]) rfl ?_;exact ⟨⟨_,_,rfl,HV.out bb he2⟩,below_trans q2 q3⟩
  |false=>
   have HX:=Lib.hid (fun (w':World) (h:Env w')=>thtext_any ⟨nm,false,arr,xs⟩ A3 c3 A4 n4 c4 v HI.out w' h);have HV:Hid (∀bb,((⟨(wordV false v).toArray⟩:ByteArray).toList==s.toList)=bb→(bb=true∧I64 v∧valueW false s.data.toList=some v)∨(bb=false∧valueW false s.data.toList=none)):=by
    show ∀bb,_;intro bb hbb;rw[ByteArray.toList_eq,ByteArray.toList_eq]at hbb;rw[HV0.out];have hbb2:(Lib.itoa v==s.data.toList)=bb:=hbb;cases bb with
    |true=>exact .inl ⟨rfl,HI.out,if_pos (eq_of_beq hbb2)⟩
    |false=>
     refine .inr ⟨rfl,if_neg fun h=> ?_⟩;rw[h]at hbb2;simp at hbb2
   unfold thV at HX;dsimp only at HX;generalize (⟨(wordV false v).toArray⟩:ByteArray)=S at*;go_wp2_with fail;refine (HX.out _ (hE.below q2)).mono ?_;rintro e w3 ⟨rfl,q3⟩;generalize he2:(S.toList==s.toList)=bb;go_wp2_with fail;refine bodyPost_ret (v:= .tuple #[.int .i64 v,.bool bb]) (by simp[results,Tryz.results35,go_sem]) rfl ?_;exact ⟨⟨_,_,rfl,HV.out bb he2⟩,below_trans q2 q3⟩
 ·have hpn:∀v,Lib.parseIntB 64 s.data.toList≠.ok v:=fun v h=>hp ⟨v,h⟩;have HP:=Lib.hid (fun (w':World) (h:Env w')=>parse_bad (w:=w') h.err hpn hs);have HV0:=Lib.hid (value_n hpn);clear hp hpn hs;go_enter Tryz.func35,Tryz.ntmps35;go_wp2_with fail;refine (HP.out _ (hE.below q0)).mono ?_;rintro e w1 ⟨⟨u,p,rfl⟩,q1⟩;have q2:=below_trans q0 q1;obtain ⟨c0,c1,c2,c3',c4'⟩:=(hb0.below q1 (Nat.le_refl _)).five;clear hb0 q0 q1;cases b with
  |true=>
   by_cases ht:s.data.toList=wTrue
   ·have d1:(s.toList==[116,114,117,101])=true:=by rw[ByteArray.toList_eq,ht];rfl
    have HX:=Lib.hid (fun (w':World) (h:Env w')=>thtext_any ⟨nm,true,arr,xs⟩ A3 c3 A4 n4 c4 1 (by constructor<;>decide) w' h);have HV:Hid (valueW true s.data.toList=some 1):=by
     show _=_;rw[ht];rfl
    have HE2:Hid (((⟨(wordV true 1).toArray⟩:ByteArray).toList==s.toList)=true):=by
     show _=_;rw[ByteArray.toList_eq,ByteArray.toList_eq,ht];rfl
    unfold thV at HX;dsimp only at HX;generalize (⟨(wordV true 1).toArray⟩:ByteArray)=S at*;clear ht;go_wp2_with fail;refine (HX.out _ (hE.below q2)).mono ?_;rintro e w3 ⟨rfl,q3⟩;have e2:=HE2.out;go_wp2_with fail;refine bodyPost_ret (v:= .tuple #[.int .i64 1,.bool true]) (by simp[results,Tryz.results35,go_sem]) rfl ?_;exact ⟨⟨_,_,rfl,.inl ⟨rfl,(by constructor<;>decide),HV.out⟩⟩,below_trans q2 q3⟩
   ·have d1:(s.toList==[116,114,117,101])=false:=by
     rw[ByteArray.toList_eq];exact beq_false_of_ne ht
    have HX:=Lib.hid (fun (w':World) (h:Env w')=>thtext_any ⟨nm,true,arr,xs⟩ A3 c3 A4 n4 c4 0 (by constructor<;>decide) w' h);have HV:Hid (∀bb,((⟨(wordV true 0).toArray⟩:ByteArray).toList==s.toList)=bb→(bb=true∧I64 0∧valueW true s.data.toList=some 0)∨(bb=false∧valueW true s.data.toList=none)):=by
     show ∀bb,_;intro bb hbb;rw[ByteArray.toList_eq,ByteArray.toList_eq]at hbb;unfold valueW;simp only[if_true];rw[if_neg ht];cases bb with
     |true=>
      have:=eq_of_beq hbb;have e:wordV true 0=wFalse:=rfl;refine .inl ⟨rfl,(by constructor<;>decide),if_pos ?_⟩;rw[←this];rfl
     |false=>
      refine .inr ⟨rfl,if_neg fun h=> ?_⟩;rw[h]at hbb;cases hbb
    unfold thV at HX;dsimp only at HX;generalize (⟨(wordV true 0).toArray⟩:ByteArray)=S at*;clear ht;go_wp2_with fail;refine (HX.out _ (hE.below q2)).mono ?_;rintro e w3 ⟨rfl,q3⟩;generalize he2:(S.toList==s.toList)=bb;go_wp2_with fail;refine bodyPost_ret (v:= .tuple #[.int .i64 0,.bool bb]) (by simp[results,Tryz.results35,go_sem]) rfl ?_;exact ⟨⟨_,_,rfl,HV.out bb he2⟩,below_trans q2 q3⟩
  |false=>
   go_wp2_with fail;refine bodyPost_ret (v:= .tuple #[.int .i64 u,.bool false]) (by simp[results,Tryz.results35,go_sem]) rfl ?_;exact ⟨⟨_,_,rfl,.inr ⟨rfl,HV0.out⟩⟩,q2⟩
end Go.Proofs.YtjlhjabgclflcaaGreatDoor

/-
  Joined texts: Tg, Tn, Pa.
-/
import Derived.Test.YtjlhjabgclflcaaGreatDoorTf
set_option maxHeartbeats 1000000
set_option maxRecDepth 100000
set_option linter.unusedSimpArgs false
set_option linter.unusedVariables false
namespace Go.Proofs.YtjlhjabgclflcaaGreatDoor
open Go.RowKit
theorem rletter_any (c:UInt8) (w:World):Calls Tryz.prog 79 #[.int .u8 c.toNat] w fun e w'=>e= .returned (.bool (isLetter c))∧w'=w:=by
 have hlt:=UInt8.toNat_lt c;have hI:isLetter c=decide (c.toNat=95∨(97≤c.toNat∧c.toNat≤122)∨(65≤c.toNat∧c.toNat≤90)):=by
  rw[Bool.eq_iff_iff,(class_eq rfl).1,decide_eq_true_iff]
 rw[hI];generalize c.toNat=n at*;clear hI;go_enter Tryz.func79,Tryz.ntmps79;go_wp2;all_goals
  go_ret;exact ⟨congrArg (fun b=>Ending.returned (.bool b)) (by rw[Bool.eq_iff_iff];simp<;>omega),rfl⟩
theorem rdigit_any (c:UInt8) (w:World):Calls Tryz.prog 80 #[.int .u8 c.toNat] w fun e w'=>e= .returned (.bool (isDigit c))∧w'=w:=by
 have hlt:=UInt8.toNat_lt c;have hI:isDigit c=decide (48≤c.toNat∧c.toNat≤57):=by
  rw[Bool.eq_iff_iff,(class_eq rfl).2,decide_eq_true_iff]
 rw[hI];generalize c.toNat=n at*;clear hI;go_enter Tryz.func80,Tryz.ntmps80;go_wp2;all_goals
  go_ret;exact ⟨congrArg (fun b=>Ending.returned (.bool b)) (by rw[Bool.eq_iff_iff];simp<;>omega),rfl⟩
theorem rdigits_any {s:ByteArray} {i:Nat} (w:World) (hs:s.size≤8192) (hi:i≤s.size):Calls Tryz.prog 81 #[.string s,.int .i64 i] w fun e w'=>e= .returned (.int .i64 (tw isDigit s i:Nat))∧Read w w':=by
 have hn:=tw_le (p:=isDigit) hi;generalize hN:tw isDigit s i=N at*;have HN:=Lib.hid hN;clear hN;go_enter Tryz.func81,Tryz.ntmps81;go_wp2;go_loopg [5] (s.size-i) (fun k v wr=>∃j,k=s.size-(i+j)∧i+j≤s.size∧v= .int .i64 (j:Nat)∧Hid (j+tw isDigit s (i+j)=N)∧Read w wr)
 case atStart=>exact ⟨0,rfl,hi,rfl,by show 0+tw isDigit s (i+0)=N;rw[Nat.zero_add,Nat.add_zero];exact HN.out,(by first|exact Read.refl _|exact ⟨_,rfl⟩|exact Read.drewN ⟨_,rfl⟩ _|exact Read.drewN (Read.drewN ⟨_,rfl⟩ _) _|exact Read.drewN (Read.refl _) _)⟩
 case round=>
  obtain ⟨j,hk,hj,rfl,hT,hq⟩:=hrel;by_cases hlt:i+j<s.size
  ·have d1:decide ((i:Int)+(j:Int)<(s.size:Int))=true:=decide_eq_true (by omega);rcases Bool.eq_false_or_eq_true (isDigit s[i+j]) with hp|hp
   ·have h1:j+1+tw isDigit s (i+(j+1))=N:=by
     have h1:=tw_yes hlt hp;have h2:=hT.out;rw[←Nat.add_assoc];omega
    have H1:=Lib.hid h1;have HP:=Lib.hid hp;clear h1 hp hT;go_wp2_with fail;refine (rdigit_any _ _).mono ?_;rintro e w3 ⟨rfl,rfl⟩;rw[HP.out];go_wp2_with fail;go_roundg (s.size-(i+(j+1)))
    case measure=>omega
    case rel=>exact ⟨j+1,rfl,by omega,by simp,H1,hq.trans (by first|exact Read.refl _|exact ⟨_,rfl⟩|exact Read.drewN ⟨_,rfl⟩ _|exact Read.drewN (Read.drewN ⟨_,rfl⟩ _) _|exact Read.drewN (Read.refl _) _)⟩
   ·have h1:j=N:=by
     have h1:=tw_no hlt hp;have h2:=hT.out;omega
    have HP:=Lib.hid hp;clear hp hT;subst h1;go_wp2_with fail;refine (rdigit_any _ _).mono ?_;rintro e w3 ⟨rfl,rfl⟩;rw[HP.out];go_wp2;go_ret;exact ⟨rfl,hq.trans (by first|exact Read.refl _|exact ⟨_,rfl⟩|exact Read.drewN ⟨_,rfl⟩ _|exact Read.drewN (Read.drewN ⟨_,rfl⟩ _) _|exact Read.drewN (Read.refl _) _)⟩
  ·have d1:decide ((i:Int)+(j:Int)<(s.size:Int))=false:=decide_eq_false (by omega);have h1:j=N:=by
    have h1:=tw_end (p:=isDigit) hlt;have h2:=hT.out;omega
   clear hT;subst h1;go_wp2;go_ret;exact ⟨rfl,hq.trans (by first|exact Read.refl _|exact ⟨_,rfl⟩|exact Read.drewN ⟨_,rfl⟩ _|exact Read.drewN (Read.drewN ⟨_,rfl⟩ _) _|exact Read.drewN (Read.refl _) _)⟩
theorem blankL_ws {c:UInt8} {r:List UInt8} (h:isWs c=true):blankL (c::r)=blankL r:=by
 have e:(c::r).dropWhile isWs=r.dropWhile isWs:=by rw[List.dropWhile_cons,if_pos h]
 by_cases h2:∃q,r.dropWhile isWs=37::q
 ·obtain ⟨q,h2⟩:=h2;rw[blankL_on (e.trans h2),blankL_on h2]
 ·have h3:∀q,r.dropWhile isWs≠37::q:=fun q hq=>h2 ⟨q,hq⟩;rw[blankL_stop (fun q hq=>h3 q (e.symm.trans hq)),blankL_stop h3,e]
theorem blankL_no {c:UInt8} {r:List UInt8} (h:isWs c=false) (h2:c≠37):blankL (c::r)=c::r:=by
 have e:(c::r).dropWhile isWs=c::r:=by rw[List.dropWhile_cons,if_neg (by simp[h])]
 rw[blankL_stop (fun q hq=>by rw[e]at hq;injection hq with h3;exact h2 h3),e]
theorem blankL_nil:blankL []=[]:=by rw[blankL_stop (by intro r h;cases h)];rfl
theorem ws_eq {c:UInt8} {n:Nat} (hn:c.toNat=n):isWs c=true↔n=32∨n=9∨n=13∨n=10:=by
 subst hn;have h:∀k:UInt8,c=k↔c.toNat=k.toNat:=fun k=>⟨fun h=>by rw[h],fun h=>UInt8.toNat_inj.1 h⟩;unfold isWs;simp only[Bool.or_eq_true,beq_iff_eq,h,or_assoc];rfl
theorem nolf_eq {c:UInt8} {n:Nat} (hn:c.toNat=n):noLf c=((n:Int) !=10):=by
 subst hn;have:∀c:UInt8,noLf c=((c.toNat:Int) !=10):=fun c=>by
  have:=forall_u8 (p:=fun c=>noLf c==((c.toNat:Int) !=10)) (by decide+kernel) c;simpa using this
 exact this c
theorem rblank_any {s:ByteArray} {i:Nat} (w:World) (hs:s.size≤8192) (hi:i≤s.size):Calls Tryz.prog 58 #[.string s,.int .i64 i] w fun e w'=>e= .returned (.int .i64 ((bl s i:Int)-(i:Int)))∧Read w w'∧i≤bl s i∧bl s i≤s.size∧s.data.toList.drop (bl s i)=blankL (s.data.toList.drop i):=by
 go_enter Tryz.func58,Tryz.ntmps58;go_wp2;go_loopg [5] (s.size-i) (fun k v wr=>∃j,k=s.size-j∧i≤j∧j≤s.size∧v= .int .i64 (j:Nat)∧Hid (blankL (s.data.toList.drop j)=blankL (s.data.toList.drop i))∧Read w wr)
 case atStart=>exact ⟨i,rfl,Nat.le_refl _,hi,rfl,rfl,(by first|exact Read.refl _|exact ⟨_,rfl⟩|exact Read.drewN ⟨_,rfl⟩ _|exact Read.drewN (Read.drewN ⟨_,rfl⟩ _) _|exact Read.drewN (Read.refl _) _)⟩
 case round=>
  obtain ⟨j,hk,hij,hj,rfl,hT,hq⟩:=hrel;by_cases hlt:j<s.size
  ·have d1:decide ((j:Int)<(s.size:Int))=true:=decide_eq_true (by omega);have hd:=drop_at hlt;by_cases h37:s[j]=37
   ·have b1:((s[j].toNat:Int)==37)=true:=by rw[h37];rfl
    have HD:=Lib.hid hd;have H37:=Lib.hid h37;clear hd h37;go_wp2_with fail;go_loopg [5] (s.size-j) (fun k v wx=>∃m,k=s.size-m∧j≤m∧m≤s.size∧v= .int .i64 (m:Nat)∧Hid (m+tw noLf s m=j+tw noLf s j)∧Read w wx)
    case atStart=>exact ⟨j,rfl,Nat.le_refl _,hj,rfl,rfl,hq.trans (by first|exact Read.refl _|exact ⟨_,rfl⟩|exact Read.drewN ⟨_,rfl⟩ _|exact Read.drewN (Read.drewN ⟨_,rfl⟩ _) _|exact Read.drewN (Read.refl _) _)⟩
    case round=>
     obtain ⟨m,hk2,hjm,hm,rfl,hT2,hq2⟩:=hrel;clear b1 d1;by_cases hlt2:m<s.size
     ·have d2:decide ((m:Int)<(s.size:Int))=true:=decide_eq_true (by omega);have hb:=nolf_eq (c:=s[m]) rfl;rcases Bool.eq_false_or_eq_true (noLf s[m]) with hp|hp
      ·have h1:m+1+tw noLf s (m+1)=j+tw noLf s j:=by
        have h1:=tw_yes hlt2 hp;have h2:=hT2.out;omega
       have H1:=Lib.hid h1;rw[hp]at hb;replace hb:=hb.symm;clear h1 hp hT2;go_wp2_with fail;go_roundg (s.size-(m+1))
       case measure=>omega
       case rel=>exact ⟨m+1,rfl,by omega,by omega,by simp,H1,hq2.trans (by first|exact Read.refl _|exact ⟨_,rfl⟩|exact Read.drewN ⟨_,rfl⟩ _|exact Read.drewN (Read.drewN ⟨_,rfl⟩ _) _|exact Read.drewN (Read.refl _) _)⟩
      ·have h0:=tw_no hlt2 hp;have h1:blankL (s.data.toList.drop m)=blankL (s.data.toList.drop i):=by
        have h2:=hT2.out;rw[h0,Nat.add_zero]at h2;rw[←hT.out,h2,drop_tw_at];have e1:=HD.out;rw[H37.out]at e1;rw[e1,blankL_on (l:=37::s.data.toList.drop (j+1)) (r:=s.data.toList.drop (j+1)) rfl];rfl
       have hjm2:j<m:=by
        have h2:=hT2.out;have h3:tw noLf s j=tw noLf s (j+1)+1:=tw_yes hlt (by rw[H37.out];rfl);omega
       have H1:=Lib.hid h1;rw[hp]at hb;replace hb:=hb.symm;clear h1 hp hT2 h0;go_wp2_with fail;go_roundg (s.size-m)
       case measure=>omega
       case rel=>exact ⟨m,rfl,by omega,hm,rfl,H1,hq2.trans (by first|exact Read.refl _|exact ⟨_,rfl⟩|exact Read.drewN ⟨_,rfl⟩ _|exact Read.drewN (Read.drewN ⟨_,rfl⟩ _) _|exact Read.drewN (Read.refl _) _)⟩
     ·have d2:decide ((m:Int)<(s.size:Int))=false:=decide_eq_false (by omega);have h0:=tw_end (p:=noLf) hlt2;have h1:blankL (s.data.toList.drop m)=blankL (s.data.toList.drop i):=by
       have h2:=hT2.out;rw[h0,Nat.add_zero]at h2;rw[←hT.out,h2,drop_tw_at];have e1:=HD.out;rw[H37.out]at e1;rw[e1,blankL_on (l:=37::s.data.toList.drop (j+1)) (r:=s.data.toList.drop (j+1)) rfl];rfl
      have H1:=Lib.hid h1;clear h1 hT2 h0;go_wp2_with fail;go_roundg (s.size-m)
      case measure=>omega
      case rel=>exact ⟨m,rfl,by omega,hm,rfl,H1,hq2.trans (by first|exact Read.refl _|exact ⟨_,rfl⟩|exact Read.drewN ⟨_,rfl⟩ _|exact Read.drewN (Read.drewN ⟨_,rfl⟩ _) _|exact Read.drewN (Read.refl _) _)⟩
   ·have b1:((s[j].toNat:Int)==37)=false:=by
     have:s[j].toNat≠37:=fun e=>h37 (UInt8.toNat_inj.1 e);simp;omega
    have hw:=ws_eq (c:=s[j]) rfl;rcases Bool.eq_false_or_eq_true (isWs s[j]) with hp|hp
    ·have h1:blankL (s.data.toList.drop (j+1))=blankL (s.data.toList.drop i):=by rw[←hT.out,hd,blankL_ws hp]
     have H1:=Lib.hid h1;have hw:=hw.1 hp;clear h1 hp hT hd h37;rcases hw with e|e|e|e
     ·have b32:((s[j].toNat:Int) !=32)=false:=by rw[e];rfl
      clear e;go_wp2_with fail;go_roundg (s.size-(j+1))
      case measure=>omega
      case rel=>exact ⟨j+1,rfl,by omega,by omega,by simp,H1,hq.trans (by first|exact Read.refl _|exact ⟨_,rfl⟩|exact Read.drewN ⟨_,rfl⟩ _|exact Read.drewN (Read.drewN ⟨_,rfl⟩ _) _|exact Read.drewN (Read.refl _) _)⟩
     ·have b32:((s[j].toNat:Int) !=32)=true:=by rw[e];rfl
      have b9:((s[j].toNat:Int) !=9)=false:=by rw[e];rfl
      clear e;go_wp2_with fail;go_roundg (s.size-(j+1))
      case measure=>omega
      case rel=>exact ⟨j+1,rfl,by omega,by omega,by simp,H1,hq.trans (by first|exact Read.refl _|exact ⟨_,rfl⟩|exact Read.drewN ⟨_,rfl⟩ _|exact Read.drewN (Read.drewN ⟨_,rfl⟩ _) _|exact Read.drewN (Read.refl _) _)⟩
     ·have b32:((s[j].toNat:Int) !=32)=true:=by rw[e];rfl
      have b9:((s[j].toNat:Int) !=9)=true:=by rw[e];rfl
      have b10:((s[j].toNat:Int) !=10)=true:=by rw[e];rfl
      have b13:((s[j].toNat:Int) !=13)=false:=by rw[e];rfl
      clear e;go_wp2_with fail;go_roundg (s.size-(j+1))
      case measure=>omega
      case rel=>exact ⟨j+1,rfl,by omega,by omega,by simp,H1,hq.trans (by first|exact Read.refl _|exact ⟨_,rfl⟩|exact Read.drewN ⟨_,rfl⟩ _|exact Read.drewN (Read.drewN ⟨_,rfl⟩ _) _|exact Read.drewN (Read.refl _) _)⟩
     ·have b32:((s[j].toNat:Int) !=32)=true:=by rw[e];rfl
      have b9:((s[j].toNat:Int) !=9)=true:=by rw[e];rfl
      have b10:((s[j].toNat:Int) !=10)=false:=by rw[e];rfl
      clear e;go_wp2_with fail;go_roundg (s.size-(j+1))
      case measure=>omega
      case rel=>exact ⟨j+1,rfl,by omega,by omega,by simp,H1,hq.trans (by first|exact Read.refl _|exact ⟨_,rfl⟩|exact Read.drewN ⟨_,rfl⟩ _|exact Read.drewN (Read.drewN ⟨_,rfl⟩ _) _|exact Read.drewN (Read.refl _) _)⟩
    ·have hfin:blankL (s.data.toList.drop i)=s.data.toList.drop j:=by rw[←hT.out,hd,blankL_no hp h37]
     have HE:=Lib.hid (bl_of hj hfin);have HF:=Lib.hid hfin;have hn:¬(s[j].toNat=32∨s[j].toNat=9∨s[j].toNat=13∨s[j].toNat=10):=fun e=>by
      rw[hw.2 e]at hp;cases hp
     have b2:((s[j].toNat:Int) !=32)=true:=by simp;omega
     have b3:((s[j].toNat:Int) !=9)=true:=by simp;omega
     have b4:((s[j].toNat:Int) !=10)=true:=by simp;omega
     have b5:((s[j].toNat:Int) !=13)=true:=by simp;omega
     clear hfin hp hT hd h37 hw hn;go_wp2;rw[HE.out,HF.out];go_ret;exact ⟨rfl,hq.trans (by first|exact Read.refl _|exact ⟨_,rfl⟩|exact Read.drewN ⟨_,rfl⟩ _|exact Read.drewN (Read.drewN ⟨_,rfl⟩ _) _|exact Read.drewN (Read.refl _) _),hij,hj,by first|trivial|rfl⟩
  ·have d1:decide ((j:Int)<(s.size:Int))=false:=decide_eq_false (by omega);have hfin:blankL (s.data.toList.drop i)=s.data.toList.drop j:=by
    rw[←hT.out,List.drop_eq_nil_of_le (by simp;omega),blankL_nil]
   have HE:=Lib.hid (bl_of hj hfin);have HF:=Lib.hid hfin;clear hfin hT;go_wp2;rw[HE.out,HF.out];go_ret;exact ⟨rfl,hq.trans (by first|exact Read.refl _|exact ⟨_,rfl⟩|exact Read.drewN ⟨_,rfl⟩ _|exact Read.drewN (Read.drewN ⟨_,rfl⟩ _) _|exact Read.drewN (Read.refl _) _),hij,hj,by first|trivial|rfl⟩
end Go.Proofs.YtjlhjabgclflcaaGreatDoor
set_option linter.unusedSimpArgs false
set_option linter.unusedVariables false
namespace Go.Proofs.YtjlhjabgclflcaaGreatDoor
theorem blank_lf (b:List UInt8):blankL (10::b)=blankL b:=blankL_ws (by decide)
theorem takeWhile_lf {p:UInt8→Bool} (h:p 10=false) (r b:List UInt8):(r++10::b).takeWhile p=r.takeWhile p:=by
 induction r with
 |nil=>rw[List.nil_append,List.takeWhile_cons,if_neg (by simp[h])];rfl
 |cons c r ih=>
  rw[List.cons_append,List.takeWhile_cons,List.takeWhile_cons,ih]
theorem wordL_lf {l:List UInt8} (hl:l≠[]) (b:List UInt8):wordL (l++10::b)=wordL l:=by
 cases l with
 |nil=>exact absurd rfl hl
 |cons c r=>
  rw[List.cons_append];unfold wordL;dsimp only;rw[takeWhile_lf (p:=isWord) (by decide),takeWhile_lf (p:=isDigit) (by decide)];cases r with
  |nil=>
   have h1:((([]++10::b:List UInt8).head?.map isDigit)=some true)=False:=by simp;decide
   have h2:((([]++10::b:List UInt8).head? =some 58)=False):=by simp
   have h3:((([]++10::b:List UInt8).head? =some 46)=False):=by simp
   simp only[h1,h2,h3,and_false,or_false,if_false];simp
  |cons d r=>rfl
def toks (l:List UInt8):Option (List (Int×List UInt8×Int)):=
 if l=[] then some []
 else if h:(wordL l).1=0 then none
 else if (wordL l).1=2 then
  match Lib.parseIntB 64 (l.take (wordL l).2) with
  | .ok v=>(toks (blankL (l.drop (wordL l).2))).map fun r=>(2,l.take (wordL l).2,v)::r
  |_=>none
 else (toks (blankL (l.drop (wordL l).2))).map fun r=>((wordL l).1,l.take (wordL l).2,0)::r
termination_by l.length
decreasing_by
 all_goals
  have h1:=wordL_pos h;have h2:=blankL_le (l.drop (wordL l).2);rw[List.length_drop]at h2;omega
def valL (k:Int) (t:List UInt8):Option Int:=if k=2 then (match Lib.parseIntB 64 t with| .ok v=>some v|_=>none) else some 0
theorem toks_nil:toks []=some []:=by rw[toks,if_pos rfl]
theorem toks_cons {l:List UInt8} (hl:l≠[]):toks l=if (wordL l).1=0 then none else (valL (wordL l).1 (l.take (wordL l).2)).bind fun v=>(toks (blankL (l.drop (wordL l).2))).map fun r=>((wordL l).1,l.take (wordL l).2,v)::r:=by
 rw[toks,if_neg hl];by_cases h:(wordL l).1=0
 ·rw[dif_pos h,if_pos h]
 ·rw[dif_neg h,if_neg h];unfold valL;by_cases h2:(wordL l).1=2
  ·rw[if_pos h2,if_pos h2,h2];split<;>rfl
  ·rw[if_neg h2,if_neg h2];rfl
def stripT (t:Tok):Int×List UInt8×Int:=(t.k,t.t,t.v)
theorem splitB_cons {n:Nat} {l:List UInt8} {acc:List Tok} (hl:l≠[]) (ha:acc.length≠4096):splitB n l acc=if (wordL l).1=0 then ([],n-l.length,5) else match valL (wordL l).1 (l.take (wordL l).2) with|some v=>splitB n (blankL (l.drop (wordL l).2)) (acc++[⟨(wordL l).1,l.take (wordL l).2,v,((n-l.length:Nat):Int)⟩])|none=>([],n-l.length,4):=by
 rw[splitB,if_neg hl,if_neg ha];by_cases h:(wordL l).1=0
 ·rw[dif_pos h,if_pos h]
 ·rw[dif_neg h,if_neg h];unfold valL;by_cases h2:(wordL l).1=2
  ·rw[if_pos h2,if_pos h2,h2];split<;>rename_i e<;>split<;>rename_i e2<;>simp_all
  ·rw[if_neg h2,if_neg h2]
theorem splitB_nil (n:Nat) (acc:List Tok):splitB n [] acc=(acc,0,0):=by rw[splitB,if_pos rfl]
theorem splitR_small {l:List UInt8} (h:l.length≤8192):splitR l=splitB l.length (blankL l) []:=by unfold splitR;rw[if_neg (by omega)]
end Go.Proofs.YtjlhjabgclflcaaGreatDoor
set_option linter.unusedSimpArgs false
set_option linter.unusedVariables false
namespace Go.Proofs.YtjlhjabgclflcaaGreatDoor
inductive PR (α:Type) where
 |ok (x:α) (l:List Tok)
 |bad (e:Int) (l:List Tok)
abbrev Pm (α:Type):=List Tok→PR α
def pret {α:Type} (x:α):Pm α:=fun l=> .ok x l
def pbind {α β:Type} (f:Pm α) (g:α→Pm β):Pm β:=fun l=>match f l with
 | .ok x r=>g x r
 | .bad e r=> .bad e r
def errP (l:List Tok):Int:=if l.isEmpty then 6 else 5
def wrongP {α:Type}:Pm α:=fun l=> .bad (errP l) l
def isP (s:List UInt8) (l:List Tok):Bool:=match l with
 |[]=>false
 |t::_=>t.t==s
def headP (l:List Tok):Tok:=l.headD ⟨0,[],0,0⟩
def mayP (s:List UInt8):Pm Bool:=fun l=>if isP s l then .ok true l.tail else .ok false l
def takeP (s:List UInt8):Pm Unit:=fun l=>if isP s l then .ok () l.tail else wrongP l
def takesP:List (List UInt8)→Pm Unit
 |[]=>pret ()
 |s::r=>pbind (takeP s) fun _=>takesP r
def words:List (List UInt8):=[[97,114,114,97,121],[98,111,111,108],[99,111,110,115,116,114,97,105,110,116],[102,97,108,115,101],[105,110,116],[109,97,120,105,109,105,122,101],[109,105,110,105,109,105,122,101],[111,102],[111,117,116,112,117,116,95,97,114,114,97,121],[111,117,116,112,117,116,95,118,97,114],[115,97,116,105,115,102,121],[115,111,108,118,101],[116,114,117,101],[118,97,114]]
def wordP (t:List UInt8):Bool:=words.contains t
def kindP (l:List Tok):Int:=match l with
 |[]=>0
 |t::_=>if t.k=1∧wordP t.t=true then 0 else t.k
def nameP:Pm (List UInt8):=fun l=>if kindP l=1 then .ok (headP l).t l.tail else wrongP l
def numberP:Pm Int:=fun l=>if kindP l=2 then .ok (headP l).v l.tail else wrongP l
def exactP (n:Int):Pm Unit:=fun l=>if kindP l=2∧(headP l).v=n then .ok () l.tail else wrongP l
structure Ex0 where
 k:Int
 n:Int
 s:List UInt8
 m:Nat
structure Ex where
 k:Int
 n:Int
 s:List UInt8
 l:List Ex0
def Ex.low (x:Ex):Ex0:=⟨x.k,x.n,x.s,x.l.length⟩
structure It where
 k:Int
 name:List UInt8
 bool:Bool
 dom:List (Int×Int)
 size:Int
 out:Bool
 vals:List Ex
 ask:Int
def wTrue:List UInt8:=[116,114,117,101]
def wFalse:List UInt8:=[102,97,108,115,101]
def plainP:Pm Ex:=fun l=>
 if kindP l=2 then .ok ⟨1,(headP l).v,[],[]⟩ l.tail
 else if kindP l=1 then .ok ⟨3,0,(headP l).t,[]⟩ l.tail
 else if isP wTrue l then .ok ⟨2,1,[],[]⟩ l.tail
 else if isP wFalse l then .ok ⟨2,0,[],[]⟩ l.tail
 else wrongP l
def exprsGo (en:List UInt8) (one:Pm Ex):Nat→List Ex→Pm (List Ex)
 |0,_=>fun l=> .bad 3 l
 |k+1,acc=>pbind one fun x=>pbind (mayP en) fun b=>if b then pret (acc++[x]) else pbind (takeP [44]) fun _=>exprsGo en one k (acc++[x])
def exprsP (en:List UInt8) (one:Pm Ex):Pm (List Ex):=pbind (mayP en) fun b=>if b then pret [] else exprsGo en one 64 []
def exprP:Pm Ex:=pbind (mayP [91]) fun b=>if b then pbind (exprsP [93] plainP) fun xs=>pret ⟨4,0,[],xs.map Ex.low⟩ else plainP
def domGo:Nat→List (Int×Int)→Pm (List (Int×Int))
 |0,_=>fun l=> .bad 3 l
 |k+1,acc=>pbind numberP fun n=>pbind (mayP [125]) fun b=>if b then pret (acc++[(n,n)]) else pbind (takeP [44]) fun _=>domGo k (acc++[(n,n)])
def wBool:List UInt8:=[98,111,111,108]
def domP:Pm (Bool×List (Int×Int)):=pbind (mayP wBool) fun b=>if b then pret (true,[]) else
 pbind (mayP [123]) fun b=>if b then pbind (domGo 256 []) fun d=>pret (false,d) else
 pbind numberP fun lo=>pbind (takeP [46,46]) fun _=>pbind numberP fun hi=>pret (false,[(lo,hi)])
def wOutVar:List UInt8:=[111,117,116,112,117,116,95,118,97,114]
def wOutArray:List UInt8:=[111,117,116,112,117,116,95,97,114,114,97,121]
def wInt:List UInt8:=[105,110,116]
def wOf:List UInt8:=[111,102]
def wVar:List UInt8:=[118,97,114]
def wArray:List UInt8:=[97,114,114,97,121]
def wConstraint:List UInt8:=[99,111,110,115,116,114,97,105,110,116]
def wSolve:List UInt8:=[115,111,108,118,101]
def wSatisfy:List UInt8:=[115,97,116,105,115,102,121]
def wMinimize:List UInt8:=[109,105,110,105,109,105,122,101]
def wMaximize:List UInt8:=[109,97,120,105,109,105,122,101]
def variableP:Pm It:=pbind domP fun d=>pbind (takeP [58]) fun _=>pbind nameP fun nm=>
 pbind (mayP [58,58]) fun o=>pbind (if o then takeP wOutVar else pret ()) fun _=>
 pbind (mayP [61]) fun v=>if v then pbind plainP fun x=>pret ⟨2,nm,d.1,d.2,0,o,[x],0⟩ else pret ⟨2,nm,d.1,d.2,0,o,[],0⟩
def truthP:Pm Bool:=pbind (mayP wBool) fun b=>if b then pret true else pbind (takeP wInt) fun _=>pret false
def arrayP:Pm It:=pbind (takeP [91]) fun _=>pbind (exactP 1) fun _=>pbind (takeP [46,46]) fun _=>pbind numberP fun n=>
 pbind (takesP [[93],wOf]) fun _=>pbind (mayP wVar) fun v=>pbind truthP fun b=>pbind (takeP [58]) fun _=>pbind nameP fun nm=>
 pbind (if v then mayP [58,58] else pret false) fun o=>
 pbind (if o then pbind (takesP [wOutArray,[40],[91]]) fun _=>pbind (exactP 1) fun _=>pbind (takeP [46,46]) fun _=>pbind (exactP n) fun _=>takesP [[93],[41]] else pret ()) fun _=>
 pbind (takesP [[61],[91]]) fun _=>pbind (exprsP [93] plainP) fun xs=>pret ⟨if v then 4 else 3,nm,b,[],n,o,xs,0⟩
def fitsP (b:Bool) (l:List Tok):Bool:=if b then isP wTrue l||isP wFalse l else !(isP wTrue l||isP wFalse l)&&decide (kindP l=2)
def parP:Pm It:=pbind truthP fun b=>pbind (takeP [58]) fun _=>pbind nameP fun nm=>pbind (takeP [61]) fun _=>fun l=>
 if fitsP b l then pbind plainP (fun x=>pret ⟨1,nm,b,[],0,false,[x],0⟩) l else wrongP l
def goalP:Pm It:=pbind (mayP wSatisfy) fun s=>if s then pret ⟨6,[],false,[],0,false,[],0⟩ else
 pbind (mayP wMinimize) fun s=>if s then pbind nameP fun nm=>pret ⟨6,nm,false,[],0,false,[],1⟩ else
 pbind (mayP wMaximize) fun s=>if s then pbind nameP fun nm=>pret ⟨6,nm,false,[],0,false,[],2⟩ else wrongP
def itemP:Pm It:=fun l=>if isP wInt l||isP wBool l then parP l else
 (pbind (mayP wVar) fun b=>if b then variableP else
 pbind (mayP wArray) fun b=>if b then arrayP else
 pbind (mayP wConstraint) fun b=>if b then (pbind nameP fun nm=>pbind (takeP [40]) fun _=>pbind (exprsP [41] exprP) fun xs=>pret ⟨5,nm,false,[],0,false,xs,0⟩) else
 pbind (mayP wSolve) fun b=>if b then goalP else wrongP) l
def allGo:Nat→List It→Pm (List It)
 |k,acc=>fun l=>if l.isEmpty then .ok acc l else match k with
  |0=> .bad 3 l
  |k+1=>pbind itemP (fun x=>pbind (takeP [59]) fun _=>allGo k (acc++[x])) l
def placeP (n:Int) (l:List Tok):Int:=match l with
 |[]=>n
 |t::_=>t.at_
def textP (s:List UInt8):List It×Int×Int:=match splitR s with
 |(l,p,e)=>if e≠0 then ([],p,e) else match allGo 512 [] l with
  | .ok x _=>(x,0,0)
  | .bad e r=>([],placeP s.length r,e)
end Go.Proofs.YtjlhjabgclflcaaGreatDoor

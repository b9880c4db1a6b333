import Derived.Test.YtjlhjabgclflcaaGreatDoorPa
set_option maxHeartbeats 4000000
set_option maxRecDepth 100000
set_option linter.unusedSimpArgs false
set_option linter.unusedVariables false
namespace Go.Proofs.YtjlhjabgclflcaaGreatDoor
open Go.RowKit
theorem rword_letter {s:ByteArray} {i:Nat} (w:World) (hs:s.size≤8192) (hi:i<s.size) (hl:isLetter s[i]=true):Calls Tryz.prog 59 #[.string s,.int .i64 i] w fun e w'=>e= .returned (.tuple #[.int .i64 1,.int .i64 (1+tw isWord s (i+1):Nat)])∧Read w w':=by
 have hn:=tw_le (p:=isWord) (s:=s) (i:=i+1) (by omega);generalize hN:1+tw isWord s (i+1)=N at*;have HN:=Lib.hid hN;have HL:=Lib.hid hl;clear hN hl;go_enter Tryz.func59,Tryz.ntmps59;go_wp2_with fail;refine (rletter_any _ _).mono ?_;rintro e w3 ⟨rfl,e3⟩;rw[HL.out,e3];go_wp2_with fail;go_loopg [7] (s.size-(i+1)) (fun k v wr=>∃j,k=s.size-(i+j)∧1≤j∧i+j≤s.size∧v= .int .i64 (j:Nat)∧Hid (j+tw isWord s (i+j)=N)∧Read w wr)
 case atStart=>exact ⟨1,rfl,Nat.le_refl _,hi,rfl,HN.out,(by first|exact Read.refl _|exact ⟨_,rfl⟩|exact Read.drewN ⟨_,rfl⟩ _|exact Read.drewN (Read.drewN ⟨_,rfl⟩ _) _|exact Read.drewN (Read.refl _) _)⟩
 case round=>
  obtain ⟨j,hk,hj1,hj,rfl,hT,hq⟩:=hrel;by_cases hlt:i+j<s.size
  ·have d1:decide ((i:Int)+(j:Int)<(s.size:Int))=true:=decide_eq_true (by omega);rcases Bool.eq_false_or_eq_true (isWord s[i+j]) with hp|hp
   ·have h1:j+1+tw isWord s (i+(j+1))=N:=by
     have h1:=tw_yes hlt hp;have h2:=hT.out;rw[←Nat.add_assoc];omega
    have H1:=Lib.hid h1;unfold isWord at hp;clear h1 hT;rcases Bool.eq_false_or_eq_true (isLetter s[i+j]) with hq1|hq1
    ·have HP:=Lib.hid hq1;clear hq1 hp;go_wp2_with fail;refine (rletter_any _ _).mono ?_;rintro e w3 ⟨rfl,rfl⟩;rw[HP.out];go_wp2_with fail;go_roundg (s.size-(i+(j+1)))
     case measure=>omega
     case rel=>exact ⟨j+1,rfl,by omega,by omega,by simp,H1,hq.trans (by first|exact Read.refl _|exact ⟨_,rfl⟩|exact Read.drewN ⟨_,rfl⟩ _|exact Read.drewN (Read.drewN ⟨_,rfl⟩ _) _|exact Read.drewN (Read.refl _) _)⟩
    ·rw[hq1,Bool.false_or]at hp;have HP:=Lib.hid hq1;have HP2:=Lib.hid hp;clear hq1 hp;go_wp2_with fail;refine (rletter_any _ _).mono ?_;rintro e w3 ⟨rfl,rfl⟩;rw[HP.out];go_wp2_with fail;refine (rdigit_any _ _).mono ?_;rintro e w3 ⟨rfl,rfl⟩;rw[HP2.out];go_wp2_with fail;go_roundg (s.size-(i+(j+1)))
     case measure=>omega
     case rel=>exact ⟨j+1,rfl,by omega,by omega,by simp,H1,hq.trans (by first|exact Read.refl _|exact ⟨_,rfl⟩|exact Read.drewN ⟨_,rfl⟩ _|exact Read.drewN (Read.drewN ⟨_,rfl⟩ _) _|exact Read.drewN (Read.refl _) _)⟩
   ·have h1:j=N:=by
     have h1:=tw_no hlt hp;have h2:=hT.out;omega
    unfold isWord at hp;rw[Bool.or_eq_false_iff]at hp;have HP:=Lib.hid hp.1;have HP2:=Lib.hid hp.2;clear hp hT;subst h1;go_wp2_with fail;refine (rletter_any _ _).mono ?_;rintro e w3 ⟨rfl,rfl⟩;rw[HP.out];go_wp2_with fail;refine (rdigit_any _ _).mono ?_;rintro e w3 ⟨rfl,rfl⟩;rw[HP2.out];go_wp2;exact bodyPost_ret (v:= .tuple #[.int .i64 1,.int .i64 (j:Nat)]) (by simp[results,Tryz.results59,go_sem]) rfl ⟨rfl,hq.trans (by first|exact Read.refl _|exact ⟨_,rfl⟩|exact Read.drewN ⟨_,rfl⟩ _|exact Read.drewN (Read.drewN ⟨_,rfl⟩ _) _|exact Read.drewN (Read.refl _) _)⟩
  ·have d1:decide ((i:Int)+(j:Int)<(s.size:Int))=false:=decide_eq_false (by omega);have h1:j=N:=by
    have h1:=tw_end (p:=isWord) hlt;have h2:=hT.out;omega
   clear hT;subst h1;go_wp2;exact bodyPost_ret (v:= .tuple #[.int .i64 1,.int .i64 (j:Nat)]) (by simp[results,Tryz.results59,go_sem]) rfl ⟨rfl,hq.trans (by first|exact Read.refl _|exact ⟨_,rfl⟩|exact Read.drewN ⟨_,rfl⟩ _|exact Read.drewN (Read.drewN ⟨_,rfl⟩ _) _|exact Read.drewN (Read.refl _) _)⟩
theorem sign_eq {c:UInt8} {n:Nat} (hn:c.toNat=n):isSign c=true↔n=58∨n=123∨n=125∨n=91∨n=93∨n=40∨n=41∨n=44∨n=59∨n=61:=by
 subst hn;have h:∀k:UInt8,c=k↔c.toNat=k.toNat:=fun k=>⟨fun h=>by rw[h],fun h=>UInt8.toNat_inj.1 h⟩;unfold isSign;simp only[Bool.or_eq_true,beq_iff_eq,h,or_assoc];rfl
theorem ext2_list {s:ByteArray} {i:Nat} (h:i+1<s.size):(s.extract i (i+2)).data.toList=[s[i],s[i+1]]:=by
 rw[take_ext,drop_at (by omega:i<s.size),drop_at h];rfl
theorem ext2_eq {s:ByteArray} {i:Nat} (a:UInt8) (h:i+1<s.size):(s.extract i (i+2)).toList=[a,a]↔s[i]=a∧(s.data.toList.drop (i+1)).head? =some a:=by
 rw[drop_at h,ByteArray.toList_eq,ext2_list h];simp
theorem head_digit {s:ByteArray} {i:Nat}:((s.data.toList.drop i).head?.map isDigit)=some true↔0<tw isDigit s i:=by
 unfold tw;cases s.data.toList.drop i with
 |nil=>simp
 |cons c r=>
  rw[List.takeWhile_cons];simp;split<;>simp_all
theorem rword_any {s:ByteArray} {i:Nat} (w:World) (hs:s.size≤8192) (hi:i<s.size):Calls Tryz.prog 59 #[.string s,.int .i64 i] w fun e w'=>e= .returned (.tuple #[.int .i64 (wordL (s.data.toList.drop i)).1,.int .i64 ((wordL (s.data.toList.drop i)).2:Nat)])∧Read w w':=by
 have hd:=drop_at hi;rcases Bool.eq_false_or_eq_true (isLetter s[i]) with c1|c1
 ·have hw:wordL (s.data.toList.drop i)=(1,1+tw isWord s (i+1)):=by
   rw[hd];unfold wordL;simp only;rw[if_pos c1];rfl
  rw[hw];exact rword_letter w hs hi c1
 have C1:=Lib.hid c1;rcases Bool.eq_false_or_eq_true (isDigit s[i]) with c2|c2
 ·have hw:wordL (s.data.toList.drop i)=(2,tw isDigit s i):=by
   have h1:=tw_yes hi c2;rw[hd];unfold wordL;simp only;rw[if_neg (by simp[c1]),if_pos c2,h1,Nat.add_comm];rfl
  have C2:=Lib.hid c2;have HW:=Lib.hid hw;clear hw hd c1 c2;go_enter Tryz.func59,Tryz.ntmps59;go_wp2_with fail;refine (rletter_any _ _).mono ?_;rintro e w3 ⟨rfl,e3⟩;rw[C1.out,e3];go_wp2_with fail;refine (rdigit_any _ _).mono ?_;rintro e w3 ⟨rfl,e3⟩;rw[C2.out,e3];go_wp2_with fail;refine (rdigits_any _ hs (Nat.le_of_lt hi)).mono ?_;rintro e w4 ⟨rfl,q⟩;go_wp2;rw[HW.out];exact bodyPost_ret (v:= .tuple #[.int .i64 2,.int .i64 (tw isDigit s i:Nat)]) (by simp[results,Tryz.results59,go_sem]) rfl ⟨rfl,q⟩
 have C2:=Lib.hid c2;by_cases c3:s[i]=45∧((s.data.toList.drop (i+1)).head?.map isDigit)=some true
 ·have hw:wordL (s.data.toList.drop i)=(2,1+tw isDigit s (i+1)):=by
   rw[hd];unfold wordL;simp only;rw[if_neg (by simp[c1]),if_neg (by simp[c2]),if_pos c3];rfl
  have b1:((s[i].toNat:Int)==45)=true:=by rw[c3.1];rfl
  have h0:=head_digit.1 c3.2;have hle:=tw_le (p:=isDigit) (s:=s) (i:=i+1) (by omega);have b2:decide ((0:Int)<(tw isDigit s (i+1):Nat))=true:=decide_eq_true (by omega);have HW:=Lib.hid hw;clear hw hd c1 c2 c3 b2;go_enter Tryz.func59,Tryz.ntmps59;go_wp2_with fail;refine (rletter_any _ _).mono ?_;rintro e w3 ⟨rfl,e3⟩;rw[C1.out,e3];go_wp2_with fail;refine (rdigit_any _ _).mono ?_;rintro e w3 ⟨rfl,e3⟩;rw[C2.out,e3];go_wp2_with fail;refine (rdigits_any (i:=i+1) _ hs hi).mono ?_;rintro e w4 ⟨rfl,q⟩;go_wp2_with fail;refine (rdigits_any (i:=i+1) _ hs hi).mono ?_;rintro e w5 ⟨rfl,q2⟩;go_wp2;rw[HW.out];exact bodyPost_ret (v:= .tuple #[.int .i64 2,.int .i64 (1+tw isDigit s (i+1):Nat)]) (by simp[results,Tryz.results59,go_sem]) rfl ⟨rfl,q.trans q2⟩
 have hw0:∀x:Int×Nat,(if isLetter s[i]=true then ((1:Int),1+((s.data.toList.drop (i+1)).takeWhile isWord).length) else if isDigit s[i]=true then (2,1+((s.data.toList.drop (i+1)).takeWhile isDigit).length) else if s[i]=45∧((s.data.toList.drop (i+1)).head?.map isDigit)=some true then (2,1+((s.data.toList.drop (i+1)).takeWhile isDigit).length) else x)=x:=fun x=>by rw[if_neg (by simp[c1]),if_neg (by simp[c2]),if_neg c3]
 by_cases h2:(s[i]=58∧(s.data.toList.drop (i+1)).head? =some 58)∨(s[i]=46∧(s.data.toList.drop (i+1)).head? =some 46)
 ·have hw:wordL (s.data.toList.drop i)=(3,2):=by
   rw[hd];unfold wordL;simp only;rw[hw0,if_pos h2]
  have hlt:i+1<s.size:=by
   by_cases h:i+1<s.size
   ·exact h
   ·rw[List.drop_eq_nil_of_le (by simp;omega)]at h2;simp at h2
  have b1:((s[i].toNat:Int)==45)=false:=by
   rcases h2 with ⟨h,_⟩|⟨h,_⟩<;>rw[h]<;>rfl
  have d1:decide ((i:Int)+1<(s.size:Int))=true:=decide_eq_true (by omega);have x1:=ext2_eq 58 hlt;have x2:=ext2_eq 46 hlt;have HW:=Lib.hid hw;rcases h2 with h2|h2
  ·have x1:=x1.2 h2;clear hw hd c1 c2 c3 hw0 h2 x2;go_enter Tryz.func59,Tryz.ntmps59;go_wp2_with fail;refine (rletter_any _ _).mono ?_;rintro e w3 ⟨rfl,e3⟩;rw[C1.out,e3];go_wp2_with fail;refine (rdigit_any _ _).mono ?_;rintro e w3 ⟨rfl,e3⟩;rw[C2.out,e3];go_wp2;rw[HW.out];exact bodyPost_ret (v:= .tuple #[.int .i64 3,.int .i64 2]) (by simp[results,Tryz.results59,go_sem]) rfl ⟨rfl,(by first|exact Read.refl _|exact ⟨_,rfl⟩|exact Read.drewN ⟨_,rfl⟩ _|exact Read.drewN (Read.drewN ⟨_,rfl⟩ _) _|exact Read.drewN (Read.refl _) _)⟩
  ·have x2:=x2.2 h2;have x1:¬(s.extract i (i+2)).toList=[58,58]:=fun e=>by rw[x2]at e;cases e
   clear hw hd c1 c2 c3 hw0 h2;go_enter Tryz.func59,Tryz.ntmps59;go_wp2_with fail;refine (rletter_any _ _).mono ?_;rintro e w3 ⟨rfl,e3⟩;rw[C1.out,e3];go_wp2_with fail;refine (rdigit_any _ _).mono ?_;rintro e w3 ⟨rfl,e3⟩;rw[C2.out,e3];go_wp2;rw[HW.out];exact bodyPost_ret (v:= .tuple #[.int .i64 3,.int .i64 2]) (by simp[results,Tryz.results59,go_sem]) rfl ⟨rfl,(by first|exact Read.refl _|exact ⟨_,rfl⟩|exact Read.drewN ⟨_,rfl⟩ _|exact Read.drewN (Read.drewN ⟨_,rfl⟩ _) _|exact Read.drewN (Read.refl _) _)⟩
 have hw:wordL (s.data.toList.drop i)=if isSign s[i]=true then (3,1) else (0,0):=by
  rw[hd];unfold wordL;simp only;rw[hw0,if_neg h2]
 have HW:=Lib.hid hw;have hx1:i+1<s.size→¬(s.extract i (i+2)).toList=[58,58]:=fun h e=>h2 (.inl ((ext2_eq 58 h).1 e));have hx2:i+1<s.size→¬(s.extract i (i+2)).toList=[46,46]:=fun h e=>h2 (.inr ((ext2_eq 46 h).1 e));have hdg:s[i]=45→¬0<tw isDigit s (i+1):=fun e h=>c3 ⟨e,head_digit.2 h⟩;have HG:=Lib.hid (sign_eq (c:=s[i]) rfl);clear hw hd c1 c2 c3 hw0 h2;by_cases h45:s[i]=45
 ·have b1:((s[i].toNat:Int)==45)=true:=by rw[h45];rfl
  have h0:=hdg h45;have hg:¬isSign s[i]=true:=by rw[h45];decide
  rw[HW.out,if_neg hg];clear hdg h45 hg HW HG;by_cases hlt:i+1<s.size
  ·have d1:decide ((i:Int)+1<(s.size:Int))=true:=decide_eq_true (by omega);have x1:=hx1 hlt;have x2:=hx2 hlt;have y1:((s.extract i (i+2)).toList==[58,58])=false:=by simpa using x1
   have y2:((s.extract i (i+2)).toList==[46,46])=false:=by simpa using x2
   have y3:¬(((s.extract i (i+2)).toList==[58,58])=true∨((s.extract i (i+2)).toList==[46,46])=true):=by rw[y1,y2];simp
   clear hx1 hx2;go_enter Tryz.func59,Tryz.ntmps59;go_wp2_with fail;refine (rletter_any _ _).mono ?_;rintro e w3 ⟨rfl,e3⟩;rw[C1.out,e3];go_wp2_with fail;refine (rdigit_any _ _).mono ?_;rintro e w3 ⟨rfl,e3⟩;rw[C2.out,e3];go_wp2_with fail;refine (rdigits_any (i:=i+1) _ hs hi).mono ?_;rintro e w4 ⟨rfl,q⟩;go_wp2;exact bodyPost_ret (v:= .tuple #[.int .i64 0,.int .i64 0]) (by simp[results,Tryz.results59,go_sem]) rfl ⟨rfl,q.trans (by first|exact Read.refl _|exact ⟨_,rfl⟩|exact Read.drewN ⟨_,rfl⟩ _|exact Read.drewN (Read.drewN ⟨_,rfl⟩ _) _|exact Read.drewN (Read.refl _) _)⟩
  ·have d1:decide ((i:Int)+1<(s.size:Int))=false:=decide_eq_false (by omega);clear hx1 hx2;go_enter Tryz.func59,Tryz.ntmps59;go_wp2_with fail;refine (rletter_any _ _).mono ?_;rintro e w3 ⟨rfl,e3⟩;rw[C1.out,e3];go_wp2_with fail;refine (rdigit_any _ _).mono ?_;rintro e w3 ⟨rfl,e3⟩;rw[C2.out,e3];go_wp2_with fail;refine (rdigits_any (i:=i+1) _ hs hi).mono ?_;rintro e w4 ⟨rfl,q⟩;go_wp2;exact bodyPost_ret (v:= .tuple #[.int .i64 0,.int .i64 0]) (by simp[results,Tryz.results59,go_sem]) rfl ⟨rfl,q.trans (by first|exact Read.refl _|exact ⟨_,rfl⟩|exact Read.drewN ⟨_,rfl⟩ _|exact Read.drewN (Read.drewN ⟨_,rfl⟩ _) _|exact Read.drewN (Read.refl _) _)⟩
 ·have b1:((s[i].toNat:Int)==45)=false:=by
   have:s[i].toNat≠45:=fun e=>h45 (UInt8.toNat_inj.1 e);simp;omega
  clear hdg h45;by_cases hlt:i+1<s.size
  ·have d1:decide ((i:Int)+1<(s.size:Int))=true:=decide_eq_true (by omega);have x1:=hx1 hlt;have x2:=hx2 hlt;have y1:((s.extract i (i+2)).toList==[58,58])=false:=by simpa using x1
   have y2:((s.extract i (i+2)).toList==[46,46])=false:=by simpa using x2
   have y3:¬(((s.extract i (i+2)).toList==[58,58])=true∨((s.extract i (i+2)).toList==[46,46])=true):=by rw[y1,y2];simp
   clear hx1 hx2;go_enter Tryz.func59,Tryz.ntmps59;go_wp2_with fail;refine (rletter_any _ _).mono ?_;rintro e w3 ⟨rfl,e3⟩;rw[C1.out,e3];go_wp2_with fail;refine (rdigit_any _ _).mono ?_;rintro e w3 ⟨rfl,e3⟩;rw[C2.out,e3];go_wp2;all_goals
    rw[HW.out];have hg:=HG.out;simp only[beq_iff_eq,beq_eq_false_iff_ne,ne_eq]at*;first
     |(rw[if_pos (hg.2 (by omega))];exact bodyPost_ret (v:= .tuple #[.int .i64 3,.int .i64 1]) (by simp[results,Tryz.results59,go_sem]) rfl ⟨rfl,(by first|exact Read.refl _|exact ⟨_,rfl⟩|exact Read.drewN ⟨_,rfl⟩ _|exact Read.drewN (Read.drewN ⟨_,rfl⟩ _) _|exact Read.drewN (Read.refl _) _)⟩)
     |(rw[if_neg (fun e=>by have:=hg.1 e;omega)];exact bodyPost_ret (v:= .tuple #[.int .i64 0,.int .i64 0]) (by simp[results,Tryz.results59,go_sem]) rfl ⟨rfl,(by first|exact Read.refl _|exact ⟨_,rfl⟩|exact Read.drewN ⟨_,rfl⟩ _|exact Read.drewN (Read.drewN ⟨_,rfl⟩ _) _|exact Read.drewN (Read.refl _) _)⟩)
  ·have d1:decide ((i:Int)+1<(s.size:Int))=false:=decide_eq_false (by omega);clear hx1 hx2;go_enter Tryz.func59,Tryz.ntmps59;go_wp2_with fail;refine (rletter_any _ _).mono ?_;rintro e w3 ⟨rfl,e3⟩;rw[C1.out,e3];go_wp2_with fail;refine (rdigit_any _ _).mono ?_;rintro e w3 ⟨rfl,e3⟩;rw[C2.out,e3];go_wp2;all_goals
    rw[HW.out];have hg:=HG.out;simp only[beq_iff_eq,beq_eq_false_iff_ne,ne_eq]at*;first
     |(rw[if_pos (hg.2 (by omega))];exact bodyPost_ret (v:= .tuple #[.int .i64 3,.int .i64 1]) (by simp[results,Tryz.results59,go_sem]) rfl ⟨rfl,(by first|exact Read.refl _|exact ⟨_,rfl⟩|exact Read.drewN ⟨_,rfl⟩ _|exact Read.drewN (Read.drewN ⟨_,rfl⟩ _) _|exact Read.drewN (Read.refl _) _)⟩)
     |(rw[if_neg (fun e=>by have:=hg.1 e;omega)];exact bodyPost_ret (v:= .tuple #[.int .i64 0,.int .i64 0]) (by simp[results,Tryz.results59,go_sem]) rfl ⟨rfl,(by first|exact Read.refl _|exact ⟨_,rfl⟩|exact Read.drewN ⟨_,rfl⟩ _|exact Read.drewN (Read.drewN ⟨_,rfl⟩ _) _|exact Read.drewN (Read.refl _) _)⟩)
end Go.Proofs.YtjlhjabgclflcaaGreatDoor

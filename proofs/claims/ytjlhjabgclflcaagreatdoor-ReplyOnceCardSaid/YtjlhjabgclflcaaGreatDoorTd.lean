import Derived.Test.YtjlhjabgclflcaaGreatDoorTb
import Derived.Test.YtjlhjabgclflcaaGreatDoorReg
import Derived.Deep.LoopGhost
set_option maxHeartbeats 8000000
set_option maxRecDepth 100000
set_option linter.unusedSimpArgs false
set_option linter.unusedVariables false
namespace Go.Proofs.YtjlhjabgclflcaaGreatDoor
open Go.RowKit
def Rdr (w:World) (g:Nat) (s:ByteArray) (i:Nat):Prop:=Blk w g 162 #[.string s,.int .i64 i]
theorem Rdr.at_ {w:World} {g i:Nat} {s:ByteArray} (h:Rdr w g s i):w.cell? ⟨g,0,none⟩=some (.string s)∧w.cell? ⟨g,1,none⟩=some (.int .i64 i):=⟨(Blk.both h).1,(Blk.both h).2.1⟩
theorem grown_set (w:World) (a:Addr) (u:Value):w.grownBy (w.setCell a u) (some a.block):=
 ⟨rfl,rfl,rfl,by simp,fun k _ hk=>heap_setCell_other w a k u (fun e=>hk (by rw[e]))⟩
theorem Read.grown {w w':World} (h:Read w w') (row:Option Nat):w.grownBy w' row:=by
 obtain ⟨n,rfl⟩:=h;exact ⟨rfl,rfl,rfl,Nat.le_refl _,fun _ _ _=>rfl⟩
theorem Rdr.read {w w':World} {g i:Nat} {s:ByteArray} (h:Rdr w g s i) (q:Read w w'):Rdr w' g s i:=by
 obtain ⟨n,rfl⟩:=q;exact Blk.drewN h n
theorem Rdr.step {w:World} {g i j:Nat} {s:ByteArray} (h:Rdr w g s i):Rdr (w.setCell ⟨g,1,none⟩ (.int .i64 j)) g s j:=Blk.set_ h 1 _
theorem more_yes {g i:Nat} {s:ByteArray} {w:World} (h:Rdr w g s i) (hs:s.size≤8192) (hlt:i<s.size):Calls Tryz.prog 135 #[.pointer (some ⟨g,0,none⟩)] w fun e w'=>e= .returned (.tuple #[.int .u8 (s[i].toNat:Nat),.bool true])∧Read w w':=by
 obtain ⟨v1,v2⟩:=h.at_;clear h;have hb:(i:Int)<(s.size:Int):=by omega
 have d1:decide ((i:Int)<(s.size:Int))=true:=decide_eq_true hb;go_enter Tryz.func135,Tryz.ntmps135;go_wp2;go_quiet (fail);go_wp2;go_quiet (fail);go_wp2;go_ret2;exact ⟨rfl,(by first|exact Read.refl _|exact ⟨_,rfl⟩|exact Read.drewN ⟨_,rfl⟩ _|exact Read.drewN (Read.drewN ⟨_,rfl⟩ _) _|exact Read.drewN (Read.refl _) _)⟩
theorem more_no {g i:Nat} {s:ByteArray} {w:World} (h:Rdr w g s i) (hlt:¬i<s.size):Calls Tryz.prog 135 #[.pointer (some ⟨g,0,none⟩)] w fun e w'=>e= .returned (.tuple #[.int .u8 0,.bool false])∧Read w w':=by
 obtain ⟨v1,v2⟩:=h.at_;clear h;have d1:decide ((i:Int)<(s.size:Int))=false:=decide_eq_false (by omega);go_enter Tryz.func135,Tryz.ntmps135;go_wp2;go_quiet (fail);go_wp2;go_ret2;exact ⟨rfl,(by first|exact Read.refl _|exact ⟨_,rfl⟩|exact Read.drewN ⟨_,rfl⟩ _|exact Read.drewN (Read.drewN ⟨_,rfl⟩ _) _|exact Read.drewN (Read.refl _) _)⟩
def byteAt (s:ByteArray) (i:Nat):UInt8:=if h:i<s.size then s[i] else 0
theorem byteAt_yes {s:ByteArray} {i:Nat} (h:i<s.size):byteAt s i=s[i]:=by unfold byteAt;rw[dif_pos h]
theorem more_any {g i:Nat} {s:ByteArray} {w:World} (h:Rdr w g s i) (hs:s.size≤8192):Calls Tryz.prog 135 #[.pointer (some ⟨g,0,none⟩)] w fun e w'=>e= .returned (.tuple #[.int .u8 ((byteAt s i).toNat:Nat),.bool (decide (i<s.size))])∧Read w w':=by
 unfold byteAt;by_cases hlt:i<s.size
 ·rw[dif_pos hlt,decide_eq_true hlt];exact more_yes h hs hlt
 ·rw[dif_neg hlt,decide_eq_false hlt];exact more_no h hlt
def tw (p:UInt8→Bool) (s:ByteArray) (i:Nat):Nat:=((s.data.toList.drop i).takeWhile p).length
theorem drop_at {s:ByteArray} {i:Nat} (h:i<s.size):s.data.toList.drop i=s[i]::s.data.toList.drop (i+1):=by
 have hl:i<s.data.toList.length:=by simpa using h
 rw[List.drop_eq_getElem_cons hl];simp;rfl
theorem tw_yes {p:UInt8→Bool} {s:ByteArray} {i:Nat} (h:i<s.size) (hp:p s[i]=true):tw p s i=tw p s (i+1)+1:=by
 unfold tw;rw[drop_at h,List.takeWhile_cons,if_pos hp];simp
theorem tw_no {p:UInt8→Bool} {s:ByteArray} {i:Nat} (h:i<s.size) (hp:p s[i]=false):tw p s i=0:=by
 unfold tw;rw[drop_at h,List.takeWhile_cons,if_neg (by simp[hp])];rfl
theorem tw_end {p:UInt8→Bool} {s:ByteArray} {i:Nat} (h:¬i<s.size):tw p s i=0:=by
 unfold tw;rw[List.drop_eq_nil_of_le (by simp;omega)];rfl
theorem tw_le {p:UInt8→Bool} {s:ByteArray} {i:Nat} (h:i≤s.size):i+tw p s i≤s.size:=by
 have h1:=takeWhile_le p (s.data.toList.drop i);unfold tw;rw[List.length_drop]at h1;simp at h1⊢;omega
theorem skip_ws {g i:Nat} {s:ByteArray} {w:World} (h:Rdr w g s i) (hs:s.size≤8192) (hi:i≤s.size):Calls Tryz.prog 132 #[.pointer (some ⟨g,0,none⟩),.func (.func 133) #[] #[]] w fun e w'=>e= .returned (.tuple #[])∧Rdr w' g s (i+tw isWs s i)∧w.grownBy w' (some g):=by
 have hn:=tw_le (p:=isWs) hi;go_enter Tryz.func132,Tryz.ntmps132;go_wp2_with fail;refine (more_any h hs).mono ?_;rintro e w2 ⟨rfl,q⟩;have h2:=h.read q;have hg2:=q.grown (some g);clear h q;go_wp2_with fail;go_loopg [4,5] (s.size-i) (fun k c ok wr=>∃j,k=s.size-j∧i≤j∧j≤s.size∧c= .int .u8 ((byteAt s j).toNat:Nat)∧ok= .bool (decide (j<s.size))∧Hid (j+tw isWs s j=i+tw isWs s i)∧Rdr wr g s j∧w.grownBy wr (some g))
 case atStart=>exact ⟨i,rfl,Nat.le_refl _,hi,rfl,rfl,rfl,h2,hg2⟩
 case round=>
  obtain ⟨j,hk,hij,hj,rfl,rfl,hT,hr,hg⟩:=hrel;clear h2 hg2;obtain ⟨v1,v2,v3,v4⟩:=Blk.both hr;by_cases hlt:j<s.size
  ·have d1:decide (j<s.size)=true:=decide_eq_true hlt;have hb:=byteAt_yes hlt;rcases Bool.eq_false_or_eq_true (isWs (byteAt s j)) with hpj|hpj
   ·have HJ:=Lib.hid hpj;have HB:=Lib.hid hb;clear hpj hb;go_wp2_with fail;refine (ws_any _ _).mono ?_;rintro e w3 ⟨rfl,rfl⟩;rw[HJ.out];go_wp2_with fail;refine (more_any (i:=j+1) (Rdr.step hr) hs).mono ?_;rintro e w4 ⟨rfl,q⟩;have hr4:=(Rdr.step (j:=j+1) hr).read q;have hg4:=(hg.trans (grown_set _ ⟨g,1,none⟩ (.int .i64 (j+1:Nat)))).trans (q.grown (some g));go_wp2_with fail;go_roundg (s.size-(j+1))
    case measure=>omega
    case rel=>
     refine ⟨j+1,rfl,by omega,by omega,rfl,rfl,?_,hr4,hg4⟩;show j+1+tw isWs s (j+1)=_;have h1:=tw_yes hlt (by rw[←HB.out];exact HJ.out);have h2:=hT.out;omega
   ·have HJ:=Lib.hid hpj;have HB:=Lib.hid hb;clear hpj hb;go_wp2_with fail;refine (ws_any _ _).mono ?_;rintro e w3 ⟨rfl,rfl⟩;rw[HJ.out];go_wp2;have h0:tw isWs s j=0:=tw_no hlt (by rw[←HB.out];exact HJ.out);have h2:=hT.out;rw[h0,Nat.add_zero]at h2;rw[←h2];exact bodyPost_end (v:= .tuple #[]) (by simp[results,Tryz.results132,go_sem]) rfl ⟨rfl,hr,hg⟩
  ·have d1:decide (j<s.size)=false:=decide_eq_false hlt;have h0:tw isWs s j=0:=tw_end hlt;have h2:=hT.out;rw[h0,Nat.add_zero]at h2;have H2:=Lib.hid h2;clear h0 h2 hT;go_wp2;rw[←H2.out];exact bodyPost_end (v:= .tuple #[]) (by simp[results,Tryz.results132,go_sem]) rfl ⟨rfl,hr,hg⟩
theorem skip_lf {g i:Nat} {s:ByteArray} {w:World} (h:Rdr w g s i) (hs:s.size≤8192) (hi:i≤s.size):Calls Tryz.prog 132 #[.pointer (some ⟨g,0,none⟩),.func (.func 136) #[] #[]] w fun e w'=>e= .returned (.tuple #[])∧Rdr w' g s (i+tw noLf s i)∧w.grownBy w' (some g):=by
 have hn:=tw_le (p:=noLf) hi;go_enter Tryz.func132,Tryz.ntmps132;go_wp2_with fail;refine (more_any h hs).mono ?_;rintro e w2 ⟨rfl,q⟩;have h2:=h.read q;have hg2:=q.grown (some g);clear h q;go_wp2_with fail;go_loopg [4,5] (s.size-i) (fun k c ok wr=>∃j,k=s.size-j∧i≤j∧j≤s.size∧c= .int .u8 ((byteAt s j).toNat:Nat)∧ok= .bool (decide (j<s.size))∧Hid (j+tw noLf s j=i+tw noLf s i)∧Rdr wr g s j∧w.grownBy wr (some g))
 case atStart=>exact ⟨i,rfl,Nat.le_refl _,hi,rfl,rfl,rfl,h2,hg2⟩
 case round=>
  obtain ⟨j,hk,hij,hj,rfl,rfl,hT,hr,hg⟩:=hrel;clear h2 hg2;obtain ⟨v1,v2,v3,v4⟩:=Blk.both hr;by_cases hlt:j<s.size
  ·have d1:decide (j<s.size)=true:=decide_eq_true hlt;have hb:=byteAt_yes hlt;rcases Bool.eq_false_or_eq_true (noLf (byteAt s j)) with hpj|hpj
   ·have HJ:=Lib.hid hpj;have HB:=Lib.hid hb;clear hpj hb;go_wp2_with fail;refine (nolf_any _ _).mono ?_;rintro e w3 ⟨rfl,rfl⟩;rw[HJ.out];go_wp2_with fail;refine (more_any (i:=j+1) (Rdr.step hr) hs).mono ?_;rintro e w4 ⟨rfl,q⟩;have hr4:=(Rdr.step (j:=j+1) hr).read q;have hg4:=(hg.trans (grown_set _ ⟨g,1,none⟩ (.int .i64 (j+1:Nat)))).trans (q.grown (some g));go_wp2_with fail;go_roundg (s.size-(j+1))
    case measure=>omega
    case rel=>
     refine ⟨j+1,rfl,by omega,by omega,rfl,rfl,?_,hr4,hg4⟩;show j+1+tw noLf s (j+1)=_;have h1:=tw_yes hlt (by rw[←HB.out];exact HJ.out);have h2:=hT.out;omega
   ·have HJ:=Lib.hid hpj;have HB:=Lib.hid hb;clear hpj hb;go_wp2_with fail;refine (nolf_any _ _).mono ?_;rintro e w3 ⟨rfl,rfl⟩;rw[HJ.out];go_wp2;have h0:tw noLf s j=0:=tw_no hlt (by rw[←HB.out];exact HJ.out);have h2:=hT.out;rw[h0,Nat.add_zero]at h2;rw[←h2];exact bodyPost_end (v:= .tuple #[]) (by simp[results,Tryz.results132,go_sem]) rfl ⟨rfl,hr,hg⟩
  ·have d1:decide (j<s.size)=false:=decide_eq_false hlt;have h0:tw noLf s j=0:=tw_end hlt;have h2:=hT.out;rw[h0,Nat.add_zero]at h2;have H2:=Lib.hid h2;clear h0 h2 hT;go_wp2;rw[←H2.out];exact bodyPost_end (v:= .tuple #[]) (by simp[results,Tryz.results132,go_sem]) rfl ⟨rfl,hr,hg⟩
theorem skip_dg {g i:Nat} {s:ByteArray} {w:World} (h:Rdr w g s i) (hs:s.size≤8192) (hi:i≤s.size):Calls Tryz.prog 132 #[.pointer (some ⟨g,0,none⟩),.func (.func 146) #[] #[]] w fun e w'=>e= .returned (.tuple #[])∧Rdr w' g s (i+tw isDigit s i)∧w.grownBy w' (some g):=by
 have hn:=tw_le (p:=isDigit) hi;go_enter Tryz.func132,Tryz.ntmps132;go_wp2_with fail;refine (more_any h hs).mono ?_;rintro e w2 ⟨rfl,q⟩;have h2:=h.read q;have hg2:=q.grown (some g);clear h q;go_wp2_with fail;go_loopg [4,5] (s.size-i) (fun k c ok wr=>∃j,k=s.size-j∧i≤j∧j≤s.size∧c= .int .u8 ((byteAt s j).toNat:Nat)∧ok= .bool (decide (j<s.size))∧Hid (j+tw isDigit s j=i+tw isDigit s i)∧Rdr wr g s j∧w.grownBy wr (some g))
 case atStart=>exact ⟨i,rfl,Nat.le_refl _,hi,rfl,rfl,rfl,h2,hg2⟩
 case round=>
  obtain ⟨j,hk,hij,hj,rfl,rfl,hT,hr,hg⟩:=hrel;clear h2 hg2;obtain ⟨v1,v2,v3,v4⟩:=Blk.both hr;by_cases hlt:j<s.size
  ·have d1:decide (j<s.size)=true:=decide_eq_true hlt;have hb:=byteAt_yes hlt;rcases Bool.eq_false_or_eq_true (isDigit (byteAt s j)) with hpj|hpj
   ·have HJ:=Lib.hid hpj;have HB:=Lib.hid hb;clear hpj hb;go_wp2_with fail;refine (digitc_any _ _).mono ?_;rintro e w3 ⟨rfl,rfl⟩;rw[HJ.out];go_wp2_with fail;refine (more_any (i:=j+1) (Rdr.step hr) hs).mono ?_;rintro e w4 ⟨rfl,q⟩;have hr4:=(Rdr.step (j:=j+1) hr).read q;have hg4:=(hg.trans (grown_set _ ⟨g,1,none⟩ (.int .i64 (j+1:Nat)))).trans (q.grown (some g));go_wp2_with fail;go_roundg (s.size-(j+1))
    case measure=>omega
    case rel=>
     refine ⟨j+1,rfl,by omega,by omega,rfl,rfl,?_,hr4,hg4⟩;show j+1+tw isDigit s (j+1)=_;have h1:=tw_yes hlt (by rw[←HB.out];exact HJ.out);have h2:=hT.out;omega
   ·have HJ:=Lib.hid hpj;have HB:=Lib.hid hb;clear hpj hb;go_wp2_with fail;refine (digitc_any _ _).mono ?_;rintro e w3 ⟨rfl,rfl⟩;rw[HJ.out];go_wp2;have h0:tw isDigit s j=0:=tw_no hlt (by rw[←HB.out];exact HJ.out);have h2:=hT.out;rw[h0,Nat.add_zero]at h2;rw[←h2];exact bodyPost_end (v:= .tuple #[]) (by simp[results,Tryz.results132,go_sem]) rfl ⟨rfl,hr,hg⟩
  ·have d1:decide (j<s.size)=false:=decide_eq_false hlt;have h0:tw isDigit s j=0:=tw_end hlt;have h2:=hT.out;rw[h0,Nat.add_zero]at h2;have H2:=Lib.hid h2;clear h0 h2 hT;go_wp2;rw[←H2.out];exact bodyPost_end (v:= .tuple #[]) (by simp[results,Tryz.results132,go_sem]) rfl ⟨rfl,hr,hg⟩
theorem skip_wd {g i:Nat} {s:ByteArray} {w:World} (h:Rdr w g s i) (hs:s.size≤8192) (hi:i≤s.size):Calls Tryz.prog 132 #[.pointer (some ⟨g,0,none⟩),.func (.func 138) #[] #[]] w fun e w'=>e= .returned (.tuple #[])∧Rdr w' g s (i+tw isWord s i)∧w.grownBy w' (some g):=by
 have hn:=tw_le (p:=isWord) hi;go_enter Tryz.func132,Tryz.ntmps132;go_wp2_with fail;refine (more_any h hs).mono ?_;rintro e w2 ⟨rfl,q⟩;have h2:=h.read q;have hg2:=q.grown (some g);clear h q;go_wp2_with fail;go_loopg [4,5] (s.size-i) (fun k c ok wr=>∃j,k=s.size-j∧i≤j∧j≤s.size∧c= .int .u8 ((byteAt s j).toNat:Nat)∧ok= .bool (decide (j<s.size))∧Hid (j+tw isWord s j=i+tw isWord s i)∧Rdr wr g s j∧w.grownBy wr (some g))
 case atStart=>exact ⟨i,rfl,Nat.le_refl _,hi,rfl,rfl,rfl,h2,hg2⟩
 case round=>
  obtain ⟨j,hk,hij,hj,rfl,rfl,hT,hr,hg⟩:=hrel;clear h2 hg2;obtain ⟨v1,v2,v3,v4⟩:=Blk.both hr;by_cases hlt:j<s.size
  ·have d1:decide (j<s.size)=true:=decide_eq_true hlt;have hb:=byteAt_yes hlt;rcases Bool.eq_false_or_eq_true (isWord (byteAt s j)) with hpj|hpj
   ·have HJ:=Lib.hid hpj;have HB:=Lib.hid hb;clear hpj hb;go_wp2_with fail;refine (word1_any _ _).mono ?_;rintro e w3 ⟨rfl,rfl⟩;rw[HJ.out];go_wp2_with fail;refine (more_any (i:=j+1) (Rdr.step hr) hs).mono ?_;rintro e w4 ⟨rfl,q⟩;have hr4:=(Rdr.step (j:=j+1) hr).read q;have hg4:=(hg.trans (grown_set _ ⟨g,1,none⟩ (.int .i64 (j+1:Nat)))).trans (q.grown (some g));go_wp2_with fail;go_roundg (s.size-(j+1))
    case measure=>omega
    case rel=>
     refine ⟨j+1,rfl,by omega,by omega,rfl,rfl,?_,hr4,hg4⟩;show j+1+tw isWord s (j+1)=_;have h1:=tw_yes hlt (by rw[←HB.out];exact HJ.out);have h2:=hT.out;omega
   ·have HJ:=Lib.hid hpj;have HB:=Lib.hid hb;clear hpj hb;go_wp2_with fail;refine (word1_any _ _).mono ?_;rintro e w3 ⟨rfl,rfl⟩;rw[HJ.out];go_wp2;have h0:tw isWord s j=0:=tw_no hlt (by rw[←HB.out];exact HJ.out);have h2:=hT.out;rw[h0,Nat.add_zero]at h2;rw[←h2];exact bodyPost_end (v:= .tuple #[]) (by simp[results,Tryz.results132,go_sem]) rfl ⟨rfl,hr,hg⟩
  ·have d1:decide (j<s.size)=false:=decide_eq_false hlt;have h0:tw isWord s j=0:=tw_end hlt;have h2:=hT.out;rw[h0,Nat.add_zero]at h2;have H2:=Lib.hid h2;clear h0 h2 hT;go_wp2;rw[←H2.out];exact bodyPost_end (v:= .tuple #[]) (by simp[results,Tryz.results132,go_sem]) rfl ⟨rfl,hr,hg⟩
theorem digits_any {g i:Nat} {s:ByteArray} {w:World} (h:Rdr w g s i) (hs:s.size≤8192) (hi:i≤s.size):Calls Tryz.prog 139 #[.pointer (some ⟨g,0,none⟩)] w fun e w'=>e= .returned (.tuple #[])∧Rdr w' g s (i+tw isDigit s i)∧w.grownBy w' (some g):=by
 go_enter Tryz.func139,Tryz.ntmps139;go_wp2_with fail;refine (skip_dg h hs hi).mono ?_;rintro e w2 ⟨rfl,h2,hg⟩;go_wp2;exact bodyPost_end (v:= .tuple #[]) (by simp[results,Tryz.results139,go_sem]) rfl ⟨rfl,h2,hg⟩
theorem drop_tw {α:Type} (p:α→Bool) (l:List α):l.drop (l.takeWhile p).length=l.dropWhile p:=by
 induction l with
 |nil=>rfl
 |cons x r ih=>
  rw[List.takeWhile_cons,List.dropWhile_cons];split
  ·simpa using ih
  ·rfl
theorem drop_tw_at (p:UInt8→Bool) (s:ByteArray) (i:Nat):s.data.toList.drop (i+tw p s i)=(s.data.toList.drop i).dropWhile p:=by
 rw[←drop_tw p,List.drop_drop];rfl
theorem blankL_stop {l:List UInt8} (h:∀r,l.dropWhile isWs≠37::r):blankL l=l.dropWhile isWs:=by
 rw[blankL];split
 ·rename_i e;rw[e]
 ·rename_i c r e;by_cases hc:c=37
  ·subst hc;exact absurd e (h r)
  ·rw[if_neg hc,e]
theorem blankL_on {l r:List UInt8} (h:l.dropWhile isWs=37::r):blankL l=blankL (r.dropWhile noLf):=by
 rw[blankL];split
 ·rename_i e;rw[h]at e;cases e
 ·rename_i c r' e;rw[h]at e;injection e with e1 e2;subst e1 e2;rw[if_pos rfl]
def bl (s:ByteArray) (i:Nat):Nat:=s.size-(blankL (s.data.toList.drop i)).length
theorem bl_of {s:ByteArray} {i j:Nat} (hj:j≤s.size) (h:blankL (s.data.toList.drop i)=s.data.toList.drop j):bl s i=j:=by
 unfold bl;rw[h,List.length_drop];have:s.data.toList.length=s.size:=by simp
 omega
theorem blank_any {g i:Nat} {s:ByteArray} {w:World} (h:Rdr w g s i) (hs:s.size≤8192) (hi:i≤s.size):Calls Tryz.prog 112 #[.pointer (some ⟨g,0,none⟩)] w fun e w'=>e= .returned (.tuple #[])∧Rdr w' g s (bl s i)∧w.grownBy w' (some g)∧i≤bl s i∧bl s i≤s.size∧s.data.toList.drop (bl s i)=blankL (s.data.toList.drop i):=by
 go_enter Tryz.func112,Tryz.ntmps112;go_wp2_with fail;go_loopg [2,3] (s.size-i) (fun k c ok wr=>∃j,k=s.size-j∧i≤j∧j≤s.size∧Hid (blankL (s.data.toList.drop j)=blankL (s.data.toList.drop i))∧Rdr wr g s j∧w.grownBy wr (some g))
 case atStart=>exact ⟨i,rfl,Nat.le_refl _,hi,rfl,h,(Read.refl w).grown _⟩
 case round=>
  obtain ⟨j,hk,hij,hj,hT,hr,hg⟩:=hrel;clear h;go_wp2_with fail;refine (skip_ws hr hs hj).mono ?_;rintro e w2 ⟨rfl,hr2,hg2⟩;have hj2:=tw_le (p:=isWs) hj;have hd:=drop_tw_at isWs s j;have HD:=Lib.hid hd;have hjj:j≤j+tw isWs s j:=Nat.le_add_right _ _;clear hd;generalize j+tw isWs s j=j2 at*;go_wp2_with fail;refine (more_any hr2 hs).mono ?_;rintro e w3 ⟨rfl,q⟩;have hr3:=hr2.read q;have hg3:=(hg.trans hg2).trans (q.grown (some g));clear hr hr2 hg hg2 q;by_cases h37:byteAt s j2=37
  ·have hlt:j2<s.size:=by
    by_cases h:j2<s.size
    ·exact h
    ·unfold byteAt at h37;rw[dif_neg h]at h37;cases h37
   have d1:(((byteAt s j2).toNat:Int) !=37)=false:=by rw[h37];rfl
   have hb:=byteAt_yes hlt;rw[h37]at hb;have HB:=Lib.hid hb;clear h37 hb;go_wp2_with fail;refine (skip_lf hr3 hs (Nat.le_of_lt hlt)).mono ?_;rintro e w4 ⟨rfl,hr4,hg4⟩;have hj3:=tw_le (p:=noLf) (Nat.le_of_lt hlt);have h1:tw noLf s j2=tw noLf s (j2+1)+1:=tw_yes hlt (by rw[←HB.out];rfl);have hd:blankL (s.data.toList.drop (j2+tw noLf s j2))=blankL (s.data.toList.drop i):=by
    rw[drop_tw_at,←hT.out];have e1:=HD.out;rw[drop_at hlt,←HB.out]at e1;rw[blankL_on e1.symm,drop_at hlt,←HB.out];rfl
   have HH:=Lib.hid hd;clear hd hT HD HB;go_wp2_with fail;go_roundg (s.size-(j2+tw noLf s j2))
   case measure=>omega
   case rel=>exact ⟨_,rfl,by omega,hj3,HH,hr4,hg3.trans hg4⟩
  ·have d1:(((byteAt s j2).toNat:Int) !=37)=true:=by
    have:(byteAt s j2).toNat≠37:=fun e=>h37 (UInt8.toNat_inj.1 e);simp;omega
   have hstop:∀r,(s.data.toList.drop j).dropWhile isWs≠37::r:=by
    intro r e;rw[←HD.out]at e;by_cases h:j2<s.size
    ·rw[drop_at h]at e;injection e with e1 e2;exact h37 (by rw[byteAt_yes h];exact e1)
    ·rw[List.drop_eq_nil_of_le (by simp;omega)]at e;cases e
   have hfin:blankL (s.data.toList.drop i)=s.data.toList.drop j2:=by rw[←hT.out,blankL_stop hstop,HD.out]
   have HE:=Lib.hid (bl_of hj2 hfin);have HF:=Lib.hid hfin;clear hfin hstop h37 hT HD;go_wp2;rw[HE.out,HF.out];exact bodyPost_ret (v:= .tuple #[]) (by simp[results,Tryz.results112,go_sem]) rfl ⟨rfl,hr3,hg3,by omega,hj2,rfl⟩
end Go.Proofs.YtjlhjabgclflcaaGreatDoor
set_option linter.unusedSimpArgs false
set_option linter.unusedVariables false
namespace Go.Proofs.YtjlhjabgclflcaaGreatDoor
open Go.RowKit
theorem ext_list (s:ByteArray) (i:Nat):(s.extract i s.size).data.toList=s.data.toList.drop i:=by
 rw[ByteArray.data_extract,Array.toList_extract,List.extract_eq_take_drop,List.take_of_length_le];rw[List.length_drop];show s.data.toList.length-i≤s.data.size-i;simp
theorem get_list {R:ByteArray} {k:Nat} (h:k<R.size):R.data.toList[k]? =some R[k]:=by
 have hl:k<R.data.toList.length:=by simpa using h
 rw[List.getElem?_eq_getElem hl];simp;rfl
theorem hp_iff (a c:UInt8) (r:List UInt8):Lib.hasPrefix (c::r) [a,a]=true↔c=a∧r.head? =some a:=by
 unfold Lib.hasPrefix;cases r with
 |nil=>simp[List.isPrefixOf]
 |cons d r=>
  simp[List.isPrefixOf];constructor
  ·rintro ⟨h1,h2⟩;exact ⟨h1.symm,h2.symm⟩
  ·rintro ⟨h1,h2⟩;exact ⟨h1.symm,h2.symm⟩
theorem class_letter {c:UInt8} (h:isLetter c=true):classN c=1:=by unfold classN;rw[if_pos h]
theorem class_digit {c:UInt8} (h1:isLetter c=false) (h:isDigit c=true):classN c=2:=by unfold classN;rw[if_neg (by simp[h1]),if_pos h]
theorem class_sign {c:UInt8} (h1:isLetter c=false) (h2:isDigit c=false) (h:isSign c=true):classN c=3:=by unfold classN;rw[if_neg (by simp[h1]),if_neg (by simp[h2]),if_pos h]
theorem class_none {c:UInt8} (h1:isLetter c=false) (h2:isDigit c=false) (h:isSign c=false):classN c=0:=by unfold classN;rw[if_neg (by simp[h1]),if_neg (by simp[h2]),if_neg (by simp[h])]
theorem word_any {g i:Nat} {s:ByteArray} {w:World} (h:Rdr w g s i) (hs:s.size≤8192) (hi:i<s.size):Calls Tryz.prog 113 #[.pointer (some ⟨g,0,none⟩)] w fun e w'=>e= .returned (.int .i64 (wordL (s.data.toList.drop i)).1)∧Rdr w' g s (i+(wordL (s.data.toList.drop i)).2)∧w.grownBy w' (some g):=by
 obtain ⟨v1,v2,v3,v4⟩:=Blk.both h;have hl:=ext_list s i;have hz:(s.extract i s.size).size=s.size-i:=by simp
 have hd:=drop_at hi;have hpos:0<(s.extract i s.size).size:=by omega
 have h0:(s.extract i s.size)[0]=s[i]:=by
  have h1:=get_list hpos;rw[hl,hd]at h1;simpa using h1.symm
 have hq:∀n,Rdr (w.drewN n) g s i:=fun n=>h.read ⟨n,rfl⟩;have HQ:=Lib.hid hq;clear hq;rcases Bool.eq_false_or_eq_true (isLetter s[i]) with c1|c1
 ·have hw:wordL (s.data.toList.drop i)=(1,tw isWord s i):=by
   rw[tw_yes hi (by unfold isWord;rw[c1];rfl),hd];unfold wordL tw;simp only;rw[if_pos c1,Nat.add_comm]
  have hc:classN (s.extract i s.size)[0]=1:=by rw[h0];exact class_letter c1
  have HW:=Lib.hid hw;have HC:=Lib.hid hc;clear hw hc c1 h0 hd hl;go_enter Tryz.func113,Tryz.ntmps113;go_wp2_with fail;go_quiet (fail);generalize s.extract i s.size=R at*;go_wp2_with fail;refine (class_any _ _).mono ?_;rintro e w2 ⟨rfl,rfl⟩;rw[HC.out];go_wp2_with fail;refine (skip_wd (HQ.out _) hs (Nat.le_of_lt hi)).mono ?_;rintro e w3 ⟨rfl,hr,hg⟩;go_wp2;rw[HW.out];go_ret;exact ⟨rfl,hr,((Read.drewN (Read.refl w) _).grown _).trans hg⟩
 rcases Bool.eq_false_or_eq_true (isDigit s[i]) with c2|c2
 ·have hw:wordL (s.data.toList.drop i)=(2,tw isDigit s i):=by
   rw[tw_yes hi c2,hd];unfold wordL tw;simp only;rw[if_neg (by simp[c1]),if_pos c2,Nat.add_comm]
  have hc:classN (s.extract i s.size)[0]=2:=by rw[h0];exact class_digit c1 c2
  have HW:=Lib.hid hw;have HC:=Lib.hid hc;clear hw hc c1 c2 h0 hd hl;go_enter Tryz.func113,Tryz.ntmps113;go_wp2_with fail;go_quiet (fail);generalize s.extract i s.size=R at*;go_wp2_with fail;refine (class_any _ _).mono ?_;rintro e w2 ⟨rfl,rfl⟩;rw[HC.out];go_wp2_with fail;refine (digits_any (HQ.out _) hs (Nat.le_of_lt hi)).mono ?_;rintro e w3 ⟨rfl,hr,hg⟩;go_wp2;rw[HW.out];go_ret;exact ⟨rfl,hr,((Read.drewN (Read.refl w) _).grown _).trans hg⟩
 by_cases c3:s[i]=45
 ·have b1:(((s.extract i s.size)[0].toNat:Int)==45)=true:=by rw[h0,c3];rfl
  have hc:classN (s.extract i s.size)[0]=0:=by rw[h0,c3];rfl
  have HC:=Lib.hid hc;by_cases h2:i+1<s.size
  ·have hl2:1<(s.extract i s.size).size:=by omega
   have h1:(s.extract i s.size)[1]=s[i+1]:=by
    have h1:=get_list hl2;rw[hl,hd,drop_at h2]at h1;simpa using h1.symm
   rcases Bool.eq_false_or_eq_true (isDigit s[i+1]) with c4|c4
   ·have hw:wordL (s.data.toList.drop i)=(2,1+tw isDigit s (i+1)):=by
     rw[hd];unfold wordL tw;simp only;rw[if_neg (by simp[c1]),if_neg (by simp[c2]),if_pos ⟨c3,by rw[drop_at h2];simp[c4]⟩]
    have hc1:classN (s.extract i s.size)[1]=2:=by
     rw[h1];refine class_digit ?_ c4;have:=num_class s[i+1];rcases Bool.eq_false_or_eq_true (isLetter s[i+1]) with c5|c5
     ·rw[class_letter c5,c4]at this;cases this
     ·exact c5
    have HW:=Lib.hid hw;have HC1:=Lib.hid hc1;clear hw hc hc1 c1 c2 c3 c4 h0 h1 hd hl;go_enter Tryz.func113,Tryz.ntmps113;go_wp2_with fail;go_quiet (fail);generalize s.extract i s.size=R at*;go_wp2_with fail;refine (class_any _ _).mono ?_;rintro e w2 ⟨rfl,rfl⟩;rw[HC.out];go_wp2_with fail;refine (class_any _ _).mono ?_;rintro e w6 ⟨rfl,rfl⟩;rw[HC1.out];go_wp2_with fail;refine (digits_any (i:=i+1) (Rdr.step (HQ.out _)) hs (Nat.le_of_lt h2)).mono ?_;rintro e w3 ⟨rfl,hr,hg⟩;go_wp2;rw[HW.out];go_ret;refine ⟨rfl,?_,(((Read.drewN (Read.refl w) _).grown _).trans (grown_set _ ⟨g,1,none⟩ _)).trans hg⟩;rw[←Nat.add_assoc];exact hr
   ·have hw:wordL (s.data.toList.drop i)=(0,0):=by
     rw[hd];unfold wordL;simp only;rw[if_neg (by simp[c1]),if_neg (by simp[c2]),if_neg (by rw[drop_at h2];simp[c4]),if_neg (by rw[c3];simp),if_neg (by rw[c3];decide)]
    have hc1:∃k,classN (s.extract i s.size)[1]=k∧(k==2)=false:=by
     refine ⟨_,rfl,?_⟩;rw[h1,num_class,c4]
    obtain ⟨k,hc1,hk⟩:=hc1;have HP1:Hid (Lib.hasPrefix (s.extract i s.size).data.toList (⟨#[58,58]⟩:ByteArray).data.toList=false):=by
     show _=_;rw[hl,hd,Bool.eq_false_iff];intro e;obtain ⟨e1,e2⟩:=(hp_iff 58 _ _).1 e;rw[c3]at e1;cases e1
    have HP2:Hid (Lib.hasPrefix (s.extract i s.size).data.toList (⟨#[46,46]⟩:ByteArray).data.toList=false):=by
     show _=_;rw[hl,hd,Bool.eq_false_iff];intro e;obtain ⟨e1,e2⟩:=(hp_iff 46 _ _).1 e;rw[c3]at e1;cases e1
    have HW:=Lib.hid hw;have HC1:=Lib.hid hc1;clear hw hc hc1 c1 c2 c3 c4 h0 h1 hd hl;go_enter Tryz.func113,Tryz.ntmps113;go_wp2_with fail;go_quiet (fail);generalize s.extract i s.size=R at*;go_wp2_with fail;refine (class_any _ _).mono ?_;rintro e w2 ⟨rfl,rfl⟩;rw[HC.out];go_wp2_with (first|(go_at_call 137;refine (class_any _ _).mono ?_;rintro e w6 ⟨rfl,rfl⟩;rw[HC1.out])|(go_at_call 140;refine (Tryz.strings_HasPrefix _ _ _).mono ?_;rintro e w5 ⟨rfl,rfl⟩;first|rw[HP1.out]|rw[HP2.out])|fail);rw[HW.out];go_ret;exact ⟨rfl,HQ.out _,(Read.drewN (Read.refl w) _).grown _⟩
  ·have hw:wordL (s.data.toList.drop i)=(0,0):=by
    have hn:s.data.toList.drop (i+1)=[]:=List.drop_eq_nil_of_le (by simp;omega);rw[hd,hn];unfold wordL;simp only;rw[if_neg (by simp[c1]),if_neg (by simp[c2]),if_neg (by simp),if_neg (by rw[c3];simp),if_neg (by rw[c3];decide)]
   have b2:decide ((1:Int)<((s.extract i s.size).size:Int))=false:=decide_eq_false (by omega);have HP1:Hid (Lib.hasPrefix (s.extract i s.size).data.toList (⟨#[58,58]⟩:ByteArray).data.toList=false):=by
    show _=_;rw[hl,hd,Bool.eq_false_iff];intro e;obtain ⟨e1,e2⟩:=(hp_iff 58 _ _).1 e;rw[c3]at e1;cases e1
   have HP2:Hid (Lib.hasPrefix (s.extract i s.size).data.toList (⟨#[46,46]⟩:ByteArray).data.toList=false):=by
    show _=_;rw[hl,hd,Bool.eq_false_iff];intro e;obtain ⟨e1,e2⟩:=(hp_iff 46 _ _).1 e;rw[c3]at e1;cases e1
   have HC1:Hid (classN 0=0):=rfl;have HW:=Lib.hid hw;clear hw hc c1 c2 c3 h0 hd hl;go_enter Tryz.func113,Tryz.ntmps113;go_wp2_with fail;go_quiet (fail);generalize s.extract i s.size=R at*;go_wp2_with fail;refine (class_any _ _).mono ?_;rintro e w2 ⟨rfl,rfl⟩;rw[HC.out];go_wp2_with (first|(go_at_call 137;refine (class_any _ _).mono ?_;rintro e w6 ⟨rfl,rfl⟩;rw[HC1.out])|(go_at_call 140;refine (Tryz.strings_HasPrefix _ _ _).mono ?_;rintro e w5 ⟨rfl,rfl⟩;first|rw[HP1.out]|rw[HP2.out])|fail);rw[HW.out];go_ret;exact ⟨rfl,HQ.out _,(Read.drewN (Read.refl w) _).grown _⟩
 have b1:(((s.extract i s.size)[0].toNat:Int)==45)=false:=by
  have:s[i].toNat≠45:=fun e=>c3 (UInt8.toNat_inj.1 e);rw[h0];simp;omega
 have HC1:Hid (classN 0=0):=rfl;have hw0:∀x,(if isLetter s[i] then ((1:Int),1+((s.data.toList.drop (i+1)).takeWhile isWord).length) else if isDigit s[i] then (2,1+((s.data.toList.drop (i+1)).takeWhile isDigit).length) else if s[i]=45∧((s.data.toList.drop (i+1)).head?.map isDigit)=some true then (2,1+((s.data.toList.drop (i+1)).takeWhile isDigit).length) else x)=x:=fun x=>by
  rw[if_neg (by simp[c1]),if_neg (by simp[c2]),if_neg (fun e=>c3 e.1)]
 by_cases e1:s[i]=58∧(s.data.toList.drop (i+1)).head? =some 58
 ·have hw:wordL (s.data.toList.drop i)=(3,2):=by
   rw[hd];unfold wordL;simp only;rw[hw0,if_pos (.inl e1)]
  have hc:classN (s.extract i s.size)[0]=3:=by rw[h0,e1.1];rfl
  have HP1:Hid (Lib.hasPrefix (s.extract i s.size).data.toList (⟨#[58,58]⟩:ByteArray).data.toList=true):=by
   show _=_;rw[hl,hd];exact (hp_iff 58 _ _).2 e1
  have HW:=Lib.hid hw;have HC:=Lib.hid hc;clear hw hc hw0 e1 c1 c2 c3 h0 hd hl;go_enter Tryz.func113,Tryz.ntmps113;go_wp2_with fail;go_quiet (fail);generalize s.extract i s.size=R at*;go_wp2_with fail;refine (class_any _ _).mono ?_;rintro e w2 ⟨rfl,rfl⟩;rw[HC.out];go_wp2_with (first|(go_at_call 140;refine (Tryz.strings_HasPrefix _ _ _).mono ?_;rintro e w5 ⟨rfl,rfl⟩;rw[HP1.out])|fail);rw[HW.out];go_ret;exact ⟨rfl,Rdr.step (j:=i+2) (HQ.out _),((Read.drewN (Read.refl w) _).grown _).trans (grown_set _ ⟨g,1,none⟩ _)⟩
 have HP1:Hid (Lib.hasPrefix (s.extract i s.size).data.toList (⟨#[58,58]⟩:ByteArray).data.toList=false):=by
  show _=_;rw[hl,hd,Bool.eq_false_iff];exact fun e=>e1 ((hp_iff 58 _ _).1 e)
 by_cases e2:s[i]=46∧(s.data.toList.drop (i+1)).head? =some 46
 ·have hw:wordL (s.data.toList.drop i)=(3,2):=by
   rw[hd];unfold wordL;simp only;rw[hw0,if_pos (.inr e2)]
  have hc:classN (s.extract i s.size)[0]=0:=by rw[h0,e2.1];rfl
  have HP2:Hid (Lib.hasPrefix (s.extract i s.size).data.toList (⟨#[46,46]⟩:ByteArray).data.toList=true):=by
   show _=_;rw[hl,hd];exact (hp_iff 46 _ _).2 e2
  have HW:=Lib.hid hw;have HC:=Lib.hid hc;clear hw hc hw0 e1 e2 c1 c2 c3 h0 hd hl;go_enter Tryz.func113,Tryz.ntmps113;go_wp2_with fail;go_quiet (fail);generalize s.extract i s.size=R at*;go_wp2_with fail;refine (class_any _ _).mono ?_;rintro e w2 ⟨rfl,rfl⟩;rw[HC.out];go_wp2_with (first|(go_at_call 140;refine (Tryz.strings_HasPrefix _ _ _).mono ?_;rintro e w5 ⟨rfl,rfl⟩;first|rw[HP1.out]|rw[HP2.out])|fail);rw[HW.out];go_ret;exact ⟨rfl,Rdr.step (j:=i+2) (HQ.out _),((Read.drewN (Read.refl w) _).grown _).trans (grown_set _ ⟨g,1,none⟩ _)⟩
 have HP2:Hid (Lib.hasPrefix (s.extract i s.size).data.toList (⟨#[46,46]⟩:ByteArray).data.toList=false):=by
  show _=_;rw[hl,hd,Bool.eq_false_iff];exact fun e=>e2 ((hp_iff 46 _ _).1 e)
 rcases Bool.eq_false_or_eq_true (isSign s[i]) with c4|c4
 ·have hw:wordL (s.data.toList.drop i)=(3,1):=by
   rw[hd];unfold wordL;simp only;rw[hw0,if_neg (fun e=>e.elim e1 e2),if_pos c4]
  have hc:classN (s.extract i s.size)[0]=3:=by rw[h0];exact class_sign c1 c2 c4
  have HW:=Lib.hid hw;have HC:=Lib.hid hc;clear hw hc hw0 e1 e2 c1 c2 c3 c4 h0 hd hl;go_enter Tryz.func113,Tryz.ntmps113;go_wp2_with fail;go_quiet (fail);generalize s.extract i s.size=R at*;go_wp2_with fail;refine (class_any _ _).mono ?_;rintro e w2 ⟨rfl,rfl⟩;rw[HC.out];go_wp2_with (first|(go_at_call 140;refine (Tryz.strings_HasPrefix _ _ _).mono ?_;rintro e w5 ⟨rfl,rfl⟩;first|rw[HP1.out]|rw[HP2.out])|fail);rw[HW.out];go_ret;exact ⟨rfl,Rdr.step (j:=i+1) (HQ.out _),((Read.drewN (Read.refl w) _).grown _).trans (grown_set _ ⟨g,1,none⟩ _)⟩
 ·have hw:wordL (s.data.toList.drop i)=(0,0):=by
   rw[hd];unfold wordL;simp only;rw[hw0,if_neg (fun e=>e.elim e1 e2),if_neg (by simp[c4])]
  have hc:classN (s.extract i s.size)[0]=0:=by rw[h0];exact class_none c1 c2 c4
  have HW:=Lib.hid hw;have HC:=Lib.hid hc;clear hw hc hw0 e1 e2 c1 c2 c3 c4 h0 hd hl;go_enter Tryz.func113,Tryz.ntmps113;go_wp2_with fail;go_quiet (fail);generalize s.extract i s.size=R at*;go_wp2_with fail;refine (class_any _ _).mono ?_;rintro e w2 ⟨rfl,rfl⟩;rw[HC.out];go_wp2_with (first|(go_at_call 137;refine (class_any _ _).mono ?_;rintro e w6 ⟨rfl,rfl⟩;rw[HC1.out])|(go_at_call 140;refine (Tryz.strings_HasPrefix _ _ _).mono ?_;rintro e w5 ⟨rfl,rfl⟩;first|rw[HP1.out]|rw[HP2.out])|fail);rw[HW.out];go_ret;exact ⟨rfl,HQ.out _,(Read.drewN (Read.refl w) _).grown _⟩
end Go.Proofs.YtjlhjabgclflcaaGreatDoor

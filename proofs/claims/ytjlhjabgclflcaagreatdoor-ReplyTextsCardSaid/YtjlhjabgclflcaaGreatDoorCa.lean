/-
  Joined texts: Ya, Yb, Yc, Ca.
-/
import Derived.Test.YtjlhjabgclflcaaGreatDoorZf
import Derived.Test.YtjlhjabgclflcaaGreatDoorVa
import Derived.Test.YtjlhjabgclflcaaGreatDoorDat
import Derived.Test.YtjlhjabgclflcaaGreatDoorReg
import Derived.Test.YtjlhjabgclflcaaGreatDoorZi
import Derived.Test.YtjlhjabgclflcaaGreatDoorVj
set_option linter.unusedSimpArgs false
set_option linter.unusedVariables false
namespace Go.Proofs.YtjlhjabgclflcaaGreatDoor
open Go.RowKit Num
def DS (A:Option Addr) (c:Nat) (L:List Tok) (n:Int) (v:Value) (o:Option (List Tok)):Prop:=
 ∃(i:Nat) (at_ er:Int),v= .agg #[.slice A L.length c,.int .i64 (i:Nat),.int .i64 n,.int .i64 at_,.int .i64 er]∧i≤L.length∧(match o with
  |some r=>er=0∧r=L.drop i
  |none=>er≠0)
end Go.Proofs.YtjlhjabgclflcaaGreatDoor
set_option linter.unusedSimpArgs false
set_option linter.unusedVariables false
namespace Go.Proofs.YtjlhjabgclflcaaGreatDoor
open Go.RowKit Num
end Go.Proofs.YtjlhjabgclflcaaGreatDoor
set_option maxHeartbeats 4000000
set_option maxRecDepth 100000
set_option linter.unusedSimpArgs false
set_option linter.unusedVariables false
namespace Go.Proofs.YtjlhjabgclflcaaGreatDoor
open Go.RowKit Num
theorem d_word (t:List UInt8) (w:World):Calls Tryz.prog 46 #[.string ⟨t.toArray⟩] w fun e w'=>e= .returned (.bool (wordP t))∧Below w.heap.size w w':=by
 by_cases h0:t=[97,114,114,97,121]
 ·subst h0;go_enter Tryz.func46,Tryz.ntmps46;go_wp2_with fail;go_ret;exact ⟨rfl,Below.refl _ _⟩
 have f0:(t==[97,114,114,97,121])=false:=beq_false_of_ne h0;by_cases h1:t=[98,111,111,108]
 ·subst h1;go_enter Tryz.func46,Tryz.ntmps46;go_wp2_with fail;go_ret;exact ⟨rfl,Below.refl _ _⟩
 have f1:(t==[98,111,111,108])=false:=beq_false_of_ne h1;by_cases h2:t=[99,111,110,115,116,114,97,105,110,116]
 ·subst h2;go_enter Tryz.func46,Tryz.ntmps46;go_wp2_with fail;go_ret;exact ⟨rfl,Below.refl _ _⟩
 have f2:(t==[99,111,110,115,116,114,97,105,110,116])=false:=beq_false_of_ne h2;by_cases h3:t=[102,97,108,115,101]
 ·subst h3;go_enter Tryz.func46,Tryz.ntmps46;go_wp2_with fail;go_ret;exact ⟨rfl,Below.refl _ _⟩
 have f3:(t==[102,97,108,115,101])=false:=beq_false_of_ne h3;by_cases h4:t=[105,110,116]
 ·subst h4;go_enter Tryz.func46,Tryz.ntmps46;go_wp2_with fail;go_ret;exact ⟨rfl,Below.refl _ _⟩
 have f4:(t==[105,110,116])=false:=beq_false_of_ne h4;by_cases h5:t=[109,97,120,105,109,105,122,101]
 ·subst h5;go_enter Tryz.func46,Tryz.ntmps46;go_wp2_with fail;go_ret;exact ⟨rfl,Below.refl _ _⟩
 have f5:(t==[109,97,120,105,109,105,122,101])=false:=beq_false_of_ne h5;by_cases h6:t=[109,105,110,105,109,105,122,101]
 ·subst h6;go_enter Tryz.func46,Tryz.ntmps46;go_wp2_with fail;go_ret;exact ⟨rfl,Below.refl _ _⟩
 have f6:(t==[109,105,110,105,109,105,122,101])=false:=beq_false_of_ne h6;by_cases h7:t=[111,102]
 ·subst h7;go_enter Tryz.func46,Tryz.ntmps46;go_wp2_with fail;go_ret;exact ⟨rfl,Below.refl _ _⟩
 have f7:(t==[111,102])=false:=beq_false_of_ne h7;by_cases h8:t=[111,117,116,112,117,116,95,97,114,114,97,121]
 ·subst h8;go_enter Tryz.func46,Tryz.ntmps46;go_wp2_with fail;go_ret;exact ⟨rfl,Below.refl _ _⟩
 have f8:(t==[111,117,116,112,117,116,95,97,114,114,97,121])=false:=beq_false_of_ne h8;by_cases h9:t=[111,117,116,112,117,116,95,118,97,114]
 ·subst h9;go_enter Tryz.func46,Tryz.ntmps46;go_wp2_with fail;go_ret;exact ⟨rfl,Below.refl _ _⟩
 have f9:(t==[111,117,116,112,117,116,95,118,97,114])=false:=beq_false_of_ne h9;by_cases h10:t=[115,97,116,105,115,102,121]
 ·subst h10;go_enter Tryz.func46,Tryz.ntmps46;go_wp2_with fail;go_ret;exact ⟨rfl,Below.refl _ _⟩
 have f10:(t==[115,97,116,105,115,102,121])=false:=beq_false_of_ne h10;by_cases h11:t=[115,111,108,118,101]
 ·subst h11;go_enter Tryz.func46,Tryz.ntmps46;go_wp2_with fail;go_ret;exact ⟨rfl,Below.refl _ _⟩
 have f11:(t==[115,111,108,118,101])=false:=beq_false_of_ne h11;by_cases h12:t=[116,114,117,101]
 ·subst h12;go_enter Tryz.func46,Tryz.ntmps46;go_wp2_with fail;go_ret;exact ⟨rfl,Below.refl _ _⟩
 have f12:(t==[116,114,117,101])=false:=beq_false_of_ne h12;by_cases h13:t=[118,97,114]
 ·subst h13;go_enter Tryz.func46,Tryz.ntmps46;go_wp2_with fail;go_ret;exact ⟨rfl,Below.refl _ _⟩
 have f13:(t==[118,97,114])=false:=beq_false_of_ne h13;have HW:=Lib.hid (show wordP t=false by simp[wordP,words,h0,h1,h2,h3,h4,h5,h6,h7,h8,h9,h10,h11,h12,h13]);clear h0 h1 h2 h3 h4 h5 h6 h7 h8 h9 h10 h11 h12 h13;go_enter Tryz.func46,Tryz.ntmps46;go_wp2_with fail;refine bodyPost_ret (v:= .bool false) (by simp[results,Tryz.results46,go_sem]) rfl ⟨by rw[HW.out],Below.refl _ _⟩
end Go.Proofs.YtjlhjabgclflcaaGreatDoor
set_option maxHeartbeats 4000000
set_option maxRecDepth 100000
set_option linter.unusedSimpArgs false
set_option linter.unusedVariables false
namespace Go.Proofs.YtjlhjabgclflcaaGreatDoor
open Go.RowKit Num Go.Joins
theorem docName_no {s:List UInt8} {l:List Tok} {p:Nat} {e:Int} (h:splitR s=(l,p,e)) (hb:¬(e=0∧l.length=1)):docName s=false:=by
 unfold docName;rw[h];match l with
 |[]=>rfl
 |[t]=>
  have:¬e=0:=fun h=>hb ⟨h,rfl⟩;show (e==0&&_)=false;rw[beq_eq_false_iff_ne.2 this];rfl
 |_::_::_=>rfl
theorem docName_one {s:List UInt8} {t:Tok} {p:Nat} (h:splitR s=([t],p,0)):docName s=(t.k==1&&(t.t==s&& !wordP s)):=by
 unfold docName;rw[h];rfl
theorem d23name_any (s:ByteArray) (w:World):Calls Tryz.prog 31 #[.string s] w fun e w'=>e= .returned (.bool (docName s.data.toList))∧Below w.heap.size w w':=by
 have HW:Hid (∀w':World,Calls Tryz.prog 46 #[.string s] w' fun e w2=>e= .returned (.bool (wordP s.data.toList))∧Below w'.heap.size w' w2):=fun w'=>d_word s.data.toList w';have HN:=Lib.hid (fun (l:List Tok) (p:Nat) (e:Int) h hb=>docName_no (s:=s.data.toList) (l:=l) (p:=p) (e:=e) h hb);have HO:=Lib.hid (fun (t:Tok) (p:Nat) h=>docName_one (s:=s.data.toList) (t:=t) (p:=p) h);have hs2:=ByteArray.toList_eq s;generalize docName s.data.toList=D at*;generalize wordP s.data.toList=wp at*;go_enter Tryz.func31,Tryz.ntmps31;go_wp2_with fail;refine (rsplit_any s w).mono ?_;rintro e w1 h1;obtain ⟨A,c,rfl,hA,q1⟩:=h1.rd;clear h1;generalize splitR s.data.toList=r at*;obtain ⟨tl,p,er⟩:=r;dsimp only at*;by_cases he:er=0
 ·subst he;rcases tl with _|⟨t,_|⟨u,rest⟩⟩
  ·have HF:=Lib.hid (HN.out _ _ _ rfl (fun h=>by cases h.2));clear HO HN hs2 hA;go_wp2_with fail;refine bodyPost_ret (v:= .bool false) (by simp[results,Tryz.results31,go_sem]) rfl ⟨?_,?_⟩
   ·rw[HF.out]
   ·exact q1
  ·obtain ⟨b,o,rfl,hb,hc⟩:=hA.at_ (fun h=>by cases h);obtain ⟨c0,c1,-,-⟩:=hc 0 (by simp);have HF:=Lib.hid (HO.out _ _ rfl);clear hc hA HO HN;rw[←hs2]at HF;clear hs2;have hb3:∀bb,((⟨t.t.toArray⟩:ByteArray).toList==s.toList)=bb→(t.t==s.toList)=bb:=fun bb h=>by rw[ByteArray.toList_eq]at h;exact h
   have HB3:=Lib.hid hb3;clear hb3;obtain ⟨tk,tt,tv,ta⟩:=t;dsimp only[List.getElem_cons_zero]at c0 c1 HF HB3;replace c0:w1.cell? ⟨b,o,none⟩=some (.int .i64 tk):=c0;replace c1:w1.cell? ⟨b,o+1,none⟩=some (.string ⟨tt.toArray⟩):=c1;obtain ⟨TT,hTT⟩:∃TT:ByteArray,(⟨tt.toArray⟩:ByteArray)=TT:=⟨_,rfl⟩;rw[hTT]at c1 HB3;clear hTT;obtain ⟨bb,hbb⟩:∃bb,(TT.toList==s.toList)=bb:=⟨_,rfl⟩;have HB:=Lib.hid (HB3.out bb hbb);clear HB3;by_cases hk:tk=1
   ·subst hk;cases bb with
    |true=>
     go_wp2_with fail;refine (HW.out w1).mono ?_;rintro e w2 ⟨rfl,q2⟩;go_wp2_with fail;refine bodyPost_ret (v:= .bool !wp) (by simp[results,Tryz.results31,go_sem]) rfl ⟨?_,?_⟩
     ·rw[HF.out,HB.out];rfl
     ·exact below_trans q1 q2
    |false=>
     go_wp2_with fail;refine bodyPost_ret (v:= .bool false) (by simp[results,Tryz.results31,go_sem]) rfl ⟨?_,?_⟩
     ·rw[HF.out,HB.out];rfl
     ·exact q1
   ·have hk':=int_ne0' hk;have HF2:Hid (D=false):=by
     show _=_;rw[HF.out,beq_eq_false_iff_ne.2 hk];rfl
    clear hk;go_wp2_with fail;refine bodyPost_ret (v:= .bool false) (by simp[results,Tryz.results31,go_sem]) rfl ⟨?_,?_⟩
    ·rw[HF2.out]
    ·exact q1
  ·have HF:=Lib.hid (HN.out _ _ _ rfl (fun h=>by have:=h.2;simp at this));obtain ⟨n,hn⟩:∃n,(t::u::rest).length=n:=⟨_,rfl⟩;have d1:((n:Int)==1)=false:=by
    rw[←hn];exact beq_false_of_ne (by simp;omega)
   rw[hn];clear HO HN hs2 hA hn;go_wp2_with fail;refine bodyPost_ret (v:= .bool false) (by simp[results,Tryz.results31,go_sem]) rfl ⟨?_,?_⟩
   ·rw[HF.out]
   ·exact q1
 ·have HF:=Lib.hid (HN.out _ _ _ rfl (fun h=>he h.1));have he':=int_ne0' he;clear HO HN hs2 hA he;go_wp2_with fail;refine bodyPost_ret (v:= .bool false) (by simp[results,Tryz.results31,go_sem]) rfl ⟨?_,?_⟩
  ·rw[HF.out]
  ·exact q1
def badD (o:Ot) (v:List Int):Bool:= !docName o.name||(!decide (v.length≤64)||(!o.arr&& !(v.length==1)))
theorem mayD_bad (o:Ot) (v:List Int):mayD o v=(!badD o v&&(!o.bool||v.all bitV)):=by
 unfold mayD badD;cases docName o.name<;>cases decide (v.length≤64)<;>cases o.arr<;>cases (v.length==1)<;>rfl
theorem d23right_any {F:Nat→Prop} (o:Ot) (v:List Int) (A3:Option Addr) (c3:Nat) (A4:Option Addr) (c4:Nat) (w:World) (hv:(layN 2).row.P F w (.slice A4 v.length c4) v):Calls Tryz.prog 22 #[.agg #[.string ⟨o.name.toArray⟩,.bool o.bool,.bool o.arr,.slice A3 o.x.length c3],.slice A4 v.length c4] w fun e w'=>e= .returned (.bool (mayD o v))∧Below w.heap.size w w':=by
 obtain ⟨hlc,hcm⟩:=layN_rng hv;have hlm:v.length≤9223372036854775807:=by unfold maxLen at hcm;omega
 clear hlc hcm;have HM:=Lib.hid (mayD_bad o v);obtain ⟨nm,b,arr,xs⟩:=o;have HW:Hid (∀w':World,Calls Tryz.prog 31 #[.string ⟨nm.toArray⟩] w' fun e w2=>e= .returned (.bool (docName nm))∧Below w'.heap.size w' w2):=fun w'=>d23name_any ⟨nm.toArray⟩ w';dsimp only at HM⊢;obtain ⟨bad,hbad⟩:∃bad,badD ⟨nm,b,arr,xs⟩ v=bad:=⟨_,rfl⟩;rw[hbad]at HM;have hbd:(!docName nm||(!decide (v.length≤64)||(!arr&& !(v.length==1))))=bad:=hbad;clear hbad;generalize docName nm=dn at*;have hb0:=Blk.new w 45 #[.string ⟨nm.toArray⟩,.bool b,.bool arr,.slice A3 xs.length c3];have q0:=below_alloc1 w (.cells #[.string ⟨nm.toArray⟩,.bool b,.bool arr,.slice A3 xs.length c3] 45);generalize mayD ⟨nm,b,arr,xs⟩ v=D at*;go_enter Tryz.func22,Tryz.ntmps22;go_upto_region 1 with fail;go_cut [24] (fun s wx=>s= .bool bad∧Below w.heap.size w wx∧Blk wx w.heap.size 45 #[.string ⟨nm.toArray⟩,.bool b,.bool arr,.slice A3 xs.length c3])
 case first=>
  have HB0:=Lib.hid hb0;have HQ0:=Lib.hid q0;clear hb0 q0 hv;go_wp2_with fail;refine (HW.out _).mono ?_;rintro e w1 ⟨rfl,q1⟩;have hb1:=HB0.out.below q1 (Nat.le_refl _);obtain ⟨e0,e1,e2,e3⟩:=hb1.four;have HB1:=Lib.hid hb1;have HQ1:=Lib.hid (below_trans HQ0.out q1);clear hb1 q1 HB0 HQ0;cases dn with
  |false=>
   obtain rfl:true=bad:=hbd;go_wp2_with fail;go_meet;exact ⟨rfl,HQ1.out,HB1.out⟩
  |true=>
   by_cases hl:v.length≤64
   ·have d1:decide ((64:Int)<(v.length:Int))=false:=decide_eq_false (by omega);have d2:decide (64<v.length)=false:=decide_eq_false (by omega);rw[decide_eq_true hl]at hbd;cases arr with
    |true=>
     obtain rfl:false=bad:=hbd;go_wp2_with fail;go_meet;exact ⟨rfl,HQ1.out,HB1.out⟩
    |false=>
     by_cases h1:v.length=1
     ·have d3:((v.length:Int) !=1)=false:=by rw[h1];rfl
      have HV1:=Lib.hid h1;rw[h1]at hbd;obtain rfl:false=bad:=hbd;clear h1 hl;go_wp2_with fail;go_meet;exact ⟨rfl,HQ1.out,HB1.out⟩
     ·have d3:((v.length:Int) !=1)=true:=ne_bool (by omega);have d4:(v.length==1)=false:=beq_false_of_ne h1;rw[d4]at hbd;obtain rfl:true=bad:=hbd;clear h1 hl;go_wp2_with fail;go_meet;exact ⟨rfl,HQ1.out,HB1.out⟩
   ·have d1:decide ((64:Int)<(v.length:Int))=true:=decide_eq_true (by omega);have d2:decide (64<v.length)=true:=decide_eq_true (by omega);rw[decide_eq_false hl]at hbd;obtain rfl:true=bad:=hbd;clear hl;go_wp2_with fail;go_meet;exact ⟨rfl,HQ1.out,HB1.out⟩
 case rest=>
  obtain ⟨rfl,q1,hb1⟩:=hcut;clear hb0 q0 HW hbd;cases bad with
  |true=>
   go_wp2_with fail;refine bodyPost_ret (v:= .bool false) (by simp[results,Tryz.results22,go_sem]) rfl ⟨?_,?_⟩
   ·rw[HM.out];rfl
   ·exact q1
  |false=>
   replace HM:Hid (D=(!b||v.all bitV)):=HM;obtain ⟨e0,e1,e2,e3⟩:=hb1.four;go_wp2_with fail;go_loopg [5] v.length (fun k a wr=>∃(j:Nat),k=v.length-j∧j≤v.length∧a= .int .i64 (j:Nat)∧(b=true→∀y∈v.take j,bitV y=true)∧wr=wc)
   case atStart=>exact ⟨0,rfl,Nat.zero_le _,rfl,(by intro _ y hy;cases hy),rfl⟩
   case round=>
    obtain ⟨j,hk,hj,rfl,hall,rfl⟩:=hrel;by_cases hlt:j<v.length
    ·have d1:decide ((j:Int)<(v.length:Int))=true:=decide_eq_true (by omega);cases b with
     |false=>
      go_wp2_with fail;go_roundg (v.length-(j+1))
      case measure=>omega
      case rel=>exact ⟨j+1,rfl,by omega,by simp,(fun h=>by cases h),rfl⟩
     |true=>
      obtain ⟨b4,o4,hA,hb4,hc⟩:=row_n (Dt.below _ hv q1 (Nat.le_refl _)) (row_ne hlt);have c1:=hc j hlt;subst hA;clear hc;have HA:=Lib.hid (hall rfl);have HT:=Lib.hid (List.take_succ_eq_append_getElem hlt);have HMm:=Lib.hid (List.getElem_mem hlt);clear hall hv;generalize v[j]=x at*;by_cases h0:x=0
      ·subst h0;have HA2:Hid (∀y∈v.take (j+1),bitV y=true):=by
        show _;rw[HT.out];intro y hy;rcases List.mem_append.1 hy with hy|hy
        ·exact HA.out y hy
        ·rw[List.mem_singleton.1 hy];rfl
       go_wp2_with fail;go_roundg (v.length-(j+1))
       case measure=>omega
       case rel=>exact ⟨j+1,rfl,by omega,by simp,(fun _=>HA2.out),rfl⟩
      ·have h0':=ne_bool h0;by_cases h1:x=1
       ·subst h1;have HA2:Hid (∀y∈v.take (j+1),bitV y=true):=by
         show _;rw[HT.out];intro y hy;rcases List.mem_append.1 hy with hy|hy
         ·exact HA.out y hy
         ·rw[List.mem_singleton.1 hy];rfl
        clear h0;go_wp2_with fail;go_roundg (v.length-(j+1))
        case measure=>omega
        case rel=>exact ⟨j+1,rfl,by omega,by simp,(fun _=>HA2.out),rfl⟩
       ·have h1':=ne_bool h1;have HF:Hid (D=false):=by
         show _=_;rw[HM.out];show v.all bitV=false;rw[List.all_eq_false];refine ⟨x,HMm.out,?_⟩;unfold bitV;rw[beq_eq_false_iff_ne.2 h0,beq_eq_false_iff_ne.2 h1];decide
        clear h0 h1;go_wp2_with fail;refine bodyPost_ret (v:= .bool false) (by simp[results,Tryz.results22,go_sem]) rfl ⟨?_,?_⟩
        ·rw[HF.out]
        ·exact q1
    ·have d1:decide ((j:Int)<(v.length:Int))=false:=decide_eq_false (by omega);have e1':v.take j=v:=List.take_of_length_le (by omega);rw[e1']at hall;clear e1';have HF:Hid (D=true):=by
      show _=_;rw[HM.out];cases b with
      |false=>rfl
      |true=>exact List.all_eq_true.2 (hall rfl)
     clear hall hv;go_wp2_with fail;refine bodyPost_ret (v:= .bool true) (by simp[results,Tryz.results22,go_sem]) rfl ⟨?_,?_⟩
     ·rw[HF.out]
     ·exact q1
end Go.Proofs.YtjlhjabgclflcaaGreatDoor

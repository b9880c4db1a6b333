/-
  Joined texts: Gl, Gm, Gn, Gd, Ge, Go, Gp.
-/
import Derived.Test.YtecfcjdgmpopjaaGreatGk
import Derived.Test.YtecfcjdgmpopjaaGreatGc
set_option maxHeartbeats 16000000
set_option maxRecDepth 100000
set_option linter.unusedSimpArgs false
set_option linter.unusedVariables false
namespace Go.Proofs.YtecfcjdgmpopjaaGreat
open Go.RowKit Num
theorem places_step (doms:List (List (Int×Int)))(bits:Int):∀(X:List Int)(j:Nat),j<X.length→placesB doms bits (X.drop j)=(placeB doms (decide (bits=2)||(decide (bits=1)&&decide (j+1=X.length))) (X.getD j 0)&&placesB doms bits (X.drop (j+1)))
 |[],j,h=>absurd h (Nat.not_lt_zero _)
 |[x],0,_=>by
  show placeB doms (decide (bits=2)||decide (bits=1)) x=(placeB doms (decide (bits=2)||(decide (bits=1)&&decide (0+1=1))) x&&true);rw[dT (show 0+1=1 by rfl),Bool.and_true,Bool.and_true]
 |[x],j+1,h=>by simp at h
 |x::y::l,0,_=>by
  show(placeB doms (decide (bits=2)) x&&placesB doms bits (y::l))=(placeB doms (decide (bits=2)||(decide (bits=1)&&decide (0+1=(x::y::l).length))) x&&placesB doms bits (y::l));rw[dF (show ¬0+1=(x::y::l).length by simp),Bool.and_false,Bool.or_false]
 |x::y::l,j+1,h=>by
  have:=places_step doms bits (y::l) j (by simpa using h);show placesB doms bits ((y::l).drop j)=(placeB doms (decide (bits=2)||(decide (bits=1)&&decide (j+1+1=(x::y::l).length))) ((y::l).getD j 0)&&placesB doms bits ((y::l).drop (j+1)));rw[this];have e:decide (j+1=(y::l).length)=decide (j+1+1=(x::y::l).length):=decide_eq_decide.2 (by simp);rw[e]
theorem m1_run (args:Array Value)(w:World):Sem.run Tryz.prog (callFunc 160 args) w= .ok (.enter 160 args) w:=by kernel_rfl
theorem m1_any (z:Int)(w:World):Calls Tryz.prog 160 #[.int .i64 z] w fun e w'=>e= .returned (.bool (!withinB z))∧Below w.heap.size w w':=by
 go_enter Tryz.func160,Tryz.ntmps160;go_wp2_with fail;refine(mwithin (z:=z) rfl).mono ?_;rintro e w1 ⟨rfl,q1⟩;go_wp2_with fail;exact bodyPost_ret (v:= .bool (!withinB z)) (by simp[results,Tryz.results160,go_sem]) rfl ⟨rfl,q1⟩
theorem any_within (l:List Int):(!(l.any fun z=> !withinB z))=l.all withinB:=by
 induction l with
 |nil=>rfl
 |cons z l ih=>
  rw[List.any_cons,List.all_cons,←ih];cases withinB z<;>rfl
theorem place_neg {doms:List (List (Int×Int))}{b:Bool}{z:Int}(h:z<0):placeB doms b z=false:=by
 unfold placeB;rw[dF (show ¬0≤z by omega)];rfl
theorem place_out {doms:List (List (Int×Int))}{b:Bool}{n:Nat}(h:¬n<doms.length):placeB doms b (n:Int)=false:=by
 unfold placeB;rw[show((n:Int)).toNat=n from rfl,List.getElem?_eq_none (by omega)];exact Bool.and_false _
theorem place_in {doms:List (List (Int×Int))}{b:Bool}{n:Nat}(h:n<doms.length):placeB doms b (n:Int)=(!b||truthB (doms.getD n [])):=by
 unfold placeB;rw[show((n:Int)).toNat=n from rfl,gG h,dT (show(0:Int)≤(n:Int) by omega),gE,gG h];rfl
theorem may_any {w:World}{a:Mp}{m:Md}{x aa:Adr}{c:Cn}(hd:DsAt w a.doms.1 a.ds m.doms)(hdl:m.doms.length≤1000)(hdz:∀i,i<m.doms.length→(m.doms.getD i []).length≤1000)(h:CnAt w x aa c)(hx:c.x.length≤1000)(ha:c.a.length≤1000):Calls Tryz.prog 105 #[.agg (mdC a m),.agg (cnC x aa c)] w fun e w'=>e= .returned (.bool (mayC m.doms c))∧Below w.heap.size w w':=by
 have HD:=ZH hd;have HA:=ZH h.a;have HX:=ZH h.x;have HFM:=ZH (fun(w':World)(q:Below w.heap.size w w')=>formed_any (h.below q) hx ha);have HDZ:=ZH hdz;have M:=((Mem.start w).new 25 (mdC a m)).newAt (g:=w.heap.size+1) (by simp) 69 (cnC x aa c);obtain⟨m0,m1,m2,m3⟩:=(M.k (i:=1) rfl).four;obtain⟨p0,p1,p2,p3⟩:=(M.k (i:=0) rfl).four;obtain⟨k,X,A,C⟩:=c;replace hx:X.length≤1000:=hx;replace ha:A.length≤1000:=ha;clear h hd hdz;obtain⟨F,hF⟩:∃F,mayC m.doms ⟨k,X,A,C⟩=F:=⟨_,rfl⟩;obtain⟨FB,hFB⟩:∃b,formedB ⟨k,X,A,C⟩=b:=⟨_,rfl⟩;rw[hFB]at HFM;cases hs:shapeOf k with
 |none=>
  have hfb:FB=false:=by rw[←hFB];unfold formedB;rw[hs]
  subst hfb;have HE:Hid (F=false):=by
   show F=_;rw[←hF];unfold mayC;rw[hFB];rfl
  have HS:Hid (∀w,Calls Tryz.prog 157 #[.int .i64 k] w fun e w'=>e= .returned (.tuple #[.agg #[iw 0,iw 0,iw 0,.bool false,iw 0],.bool false])∧Below w.heap.size w w'):=fun w=>by
   have:=shapes_any k w;rw[hs]at this;exact this
  rw[hF];clear hs hF hFB;go_enter Tryz.func105,Tryz.ntmps105;go_wp2_with fail;refine(HS.out _).mono ?_;rintro e w1 ⟨rfl,q1⟩;replace M:=M.below q1;have HM:=ZH (M.new 202 #[iw 0,iw 0,iw 0,.bool false,iw 0]);clear p0 p1 p2 p3 m0 m1 m2 m3 q1 HS M;obtain⟨p0,p1,p2,p3⟩:=(HM.out.k (i:=1) rfl).four;go_wp2_with fail;refine(HFM.out _ HM.out.bel).mono ?_;rintro e w2 ⟨rfl,q2⟩;have HBB:=ZH (bT HM.out.bel q2);go_wp2_with fail;exact bodyPost_ret (v:= .bool false) (by simp[results,Tryz.results105,go_sem]) rfl ⟨by rw[HE.out],HBB.out⟩
 |some s=>
  obtain⟨rule,sx,sa,has,bits⟩:=s;have HS:Hid (∀w,Calls Tryz.prog 157 #[.int .i64 k] w fun e w'=>e= .returned (.tuple #[.agg #[iw rule,iw sx,iw sa,.bool has,iw bits],.bool true])∧Below w.heap.size w w'):=fun w=>by
   have:=shapes_any k w;rw[hs]at this;exact this
  have HF:Hid (F=(FB&&(decide (X.length≤32)&&(withinB C&&((decide (C=0)||has)&&(placesB m.doms bits X&&A.all withinB)))))):=by
   show F=_;rw[←hF];unfold mayC;rw[hFB,hs]
  rw[hF];clear hs hF hFB;go_enter Tryz.func105,Tryz.ntmps105;go_wp2_with fail;refine(HS.out _).mono ?_;rintro e w1 ⟨rfl,q1⟩;replace M:=M.below q1;have HM:=ZH (M.new 202 #[iw rule,iw sx,iw sa,.bool has,iw bits]);clear p0 p1 p2 p3 m0 m1 m2 m3 q1 HS M;obtain⟨p0,p1,p2,p3⟩:=(HM.out.k (i:=1) rfl).four;go_wp2_with fail;refine(HFM.out _ HM.out.bel).mono ?_;rintro e w2 ⟨rfl,q2⟩;have HM2:=ZH (HM.out.below q2);have HBB:=ZH HM2.out.bel;clear p0 p1 p2 p3 q2 HM HFM;obtain⟨s0,s1,s2,s3,s4⟩:=(HM2.out.k (i:=0) rfl).fiveS;obtain⟨p0,p1,p2,p3⟩:=(HM2.out.k (i:=1) rfl).four;obtain⟨m0,m1,m2,m3⟩:=(HM2.out.k (i:=2) rfl).four;cases FB with
  |false=>
   have HE:Hid (F=false):=HF.out;go_wp2_with fail;exact bodyPost_ret (v:= .bool false) (by simp[results,Tryz.results105,go_sem]) rfl ⟨by rw[HE.out],HBB.out⟩
  |true=>
   by_cases h1:X.length≤32
   ·have d1:decide ((32:Int)<(X.length:Int))=false:=dF (by omega);go_wp2_with fail;refine(mwithin (z:=C) rfl).mono ?_;rintro e w3 ⟨rfl,q3⟩;have HM3:=ZH (HM2.out.below q3);have HBB:=ZH HM3.out.bel;clear s0 s1 s2 s3 s4 p0 p1 p2 p3 m0 m1 m2 m3 q3 HM2;obtain⟨s0,s1,s2,s3,s4⟩:=(HM3.out.k (i:=0) rfl).fiveS;obtain⟨p0,p1,p2,p3⟩:=(HM3.out.k (i:=1) rfl).four;obtain⟨m0,m1,m2,m3⟩:=(HM3.out.k (i:=2) rfl).four;cases hwc:withinB C with
    |false=>
     have HE:Hid (F=false):=HF.out.trans (by rw[hwc,dT h1];rfl);go_wp2_with fail;exact bodyPost_ret (v:= .bool false) (by simp[results,Tryz.results105,go_sem]) rfl ⟨by rw[HE.out],HBB.out⟩
    |true=>
     have HF2:Hid (F=((decide (C=0)||has)&&(placesB m.doms bits X&&A.all withinB))):=HF.out.trans (by rw[hwc,dT h1];rfl);clear HF;by_cases h2:C=0∨has=true
     ·have HF3:Hid (F=(placesB m.doms bits (X.drop 0)&&A.all withinB)):=HF2.out.trans (by
       rcases h2 with h2|h2
       ·rw[dT h2];rfl
       ·rw[h2,Bool.or_true];rfl)
      clear HF2;have hgo:Hid (C=0∨C≠0∧has=true):=by
       by_cases e:C=0
       ·exact .inl e
       ·exact .inr ⟨e,h2.resolve_left e⟩
      clear h2;have HXX:=ZH (HX.out.below HBB.out);rcases hgo.out with e|⟨e,e2⟩
      ·have d2:(C !=0)=false:=by rw[e];rfl
       clear e hgo;go_wp2_with fail;go_loopg [43] X.length (fun k p wr=>∃j,k=X.length-j∧j≤X.length∧p= .int .i64 (j:Nat)∧Hid (F=(placesB m.doms bits (X.drop j)&&A.all withinB))∧Hid (Below w3.heap.size w3 wr))
       case atStart=>exact⟨0,rfl,Nat.zero_le _,rfl,HF3.out,Below.refl _ _⟩
       case round=>
        clear HF3 s0 s1 s2 s3 s4 p0 p1 p2 p3 m0 m1 m2 m3;obtain⟨j,hk,hj,rfl,HL,HQ⟩:=hrel;have HM:=ZH (HM3.out.below HQ.out);have HBB:=ZH HM.out.bel;obtain⟨s0,s1,s2,s3,s4⟩:=(HM.out.k (i:=0) rfl).fiveS;obtain⟨p0,p1,p2,p3⟩:=(HM.out.k (i:=1) rfl).four;obtain⟨m0,m1,m2,m3⟩:=(HM.out.k (i:=2) rfl).four;by_cases hlt:j<X.length
        ·have d5:decide ((j:Int)<(X.length:Int))=true:=dT (by omega);have HC:Hid (F=((placeB m.doms (decide (bits=2)||(decide (bits=1)&&decide (j+1=X.length))) (X.getD j 0)&&placesB m.doms bits (X.drop (j+1)))&&A.all withinB)):=HL.out.trans (by rw[places_step m.doms bits X j hlt]);obtain⟨gx,ox,hxa,cj⟩:=(HXX.out.below HQ.out) j hlt;replace cj:wr.cell? ⟨gx,ox+j,none⟩=some (.int .i64 (X.getD j 0)):=cj;rw[hxa]at p1;rw[hxa];have HXA:=ZH hxa;generalize X.getD j 0=z at*;clear HL hxa;by_cases z0:z<0
         ·have d6:decide (z<0)=true:=dT z0;have HE:Hid (F=false):=HC.out.trans (by rw[place_neg z0];rfl);go_wp2_with fail;exact bodyPost_ret (v:= .bool false) (by simp[results,Tryz.results105,go_sem]) rfl ⟨by rw[HE.out],HBB.out⟩
         ·obtain⟨n,rfl⟩:=Int.eq_ofNat_of_zero_le (Int.not_lt.1 z0);have d6:decide ((n:Int)<0)=false:=dF (by omega);by_cases hn:n<m.doms.length
          ·have d7:decide ((m.doms.length:Int)≤(n:Int))=false:=dF (by omega);have x1:IntKind.i64.wrap ((X.length:Int)-1)=(X.length:Int)-1:=by rw[IntKind.wrap_i64];omega
           by_cases b2:bits=2
           ·have d8:(bits==2)=true:=beq_iff_eq.2 b2;have HT:Hid (F=(truthB (m.doms.getD n [])&&(placesB m.doms bits (X.drop (j+1))&&A.all withinB))):=HC.out.trans (by rw[place_in hn,dT b2,Bool.and_assoc];rfl);clear b2 HC;obtain⟨gd,od,hda,cd⟩:=(HD.out.below HBB.out).ap n hn;replace cd:wr.cell? ⟨gd,od+n,none⟩=some (.slice (a.ds.getD n ad0).1 (m.doms.getD n []).length (a.ds.getD n ad0).2):=cd;rw[hda]at m0;have HRR:=ZH ((HD.out.below HBB.out).ar n hn);have hrl:=HDZ.out n hn;clear hda;generalize (a.ds.getD n ad0).1=DA at*;generalize (a.ds.getD n ad0).2=dc at*;generalize m.doms.getD n []=row at*;go_wp2_with fail;refine(truth_any HRR.out (by omega)).mono ?_;rintro e w5 ⟨rfl,q5⟩;have HQ5:=ZH (bT HQ.out q5);have HBB:=ZH (bT HBB.out q5);cases htr:truthB row with
            |false=>
             have HE:Hid (F=false):=HT.out.trans (by rw[htr];rfl);go_wp2_with fail;exact bodyPost_ret (v:= .bool false) (by simp[results,Tryz.results105,go_sem]) rfl ⟨by rw[HE.out],HBB.out⟩
            |true=>
             have HC2:Hid (F=(placesB m.doms bits (X.drop (j+1))&&A.all withinB)):=HT.out.trans (by rw[htr];rfl);clear HT;go_wp2_with fail;rw[←HXA.out];go_roundg (X.length-(j+1))
             case measure=>omega
             case rel=>exact⟨j+1,rfl,by omega,by simp,HC2.out,HQ5.out⟩
           ·have d8:(bits==2)=false:=beq_false_of_ne b2;by_cases b1:bits=1
            ·have d9:(bits==1)=true:=beq_iff_eq.2 b1;by_cases b3:j+1=X.length
             ·have d10:((j:Int)==(X.length:Int)-1)=true:=beq_iff_eq.2 (by omega);have HT:Hid (F=(truthB (m.doms.getD n [])&&(placesB m.doms bits (X.drop (j+1))&&A.all withinB))):=HC.out.trans (by rw[place_in hn,dT b1,dT b3,Bool.and_self,Bool.or_true,Bool.and_assoc];rfl);clear b2 b1 HC;obtain⟨gd,od,hda,cd⟩:=(HD.out.below HBB.out).ap n hn;replace cd:wr.cell? ⟨gd,od+n,none⟩=some (.slice (a.ds.getD n ad0).1 (m.doms.getD n []).length (a.ds.getD n ad0).2):=cd;rw[hda]at m0;have HRR:=ZH ((HD.out.below HBB.out).ar n hn);have hrl:=HDZ.out n hn;clear hda;generalize (a.ds.getD n ad0).1=DA at*;generalize (a.ds.getD n ad0).2=dc at*;generalize m.doms.getD n []=row at*;go_wp2_with fail;refine(truth_any HRR.out (by omega)).mono ?_;rintro e w5 ⟨rfl,q5⟩;have HQ5:=ZH (bT HQ.out q5);have HBB:=ZH (bT HBB.out q5);cases htr:truthB row with
              |false=>
               have HE:Hid (F=false):=HT.out.trans (by rw[htr];rfl);go_wp2_with fail;exact bodyPost_ret (v:= .bool false) (by simp[results,Tryz.results105,go_sem]) rfl ⟨by rw[HE.out],HBB.out⟩
              |true=>
               have HC2:Hid (F=(placesB m.doms bits (X.drop (j+1))&&A.all withinB)):=HT.out.trans (by rw[htr];rfl);clear HT;go_wp2_with fail;rw[←HXA.out];go_roundg (X.length-(j+1))
               case measure=>omega
               case rel=>exact⟨j+1,rfl,by omega,by simp,HC2.out,HQ5.out⟩
             ·have d10:((j:Int)==(X.length:Int)-1)=false:=beq_false_of_ne (by omega);have HC2:Hid (F=(placesB m.doms bits (X.drop (j+1))&&A.all withinB)):=HC.out.trans (by rw[place_in hn,dF b2,dF b3,Bool.and_false,Bool.or_false];rfl);clear b2 b1 b3 HC;go_wp2_with fail;rw[←HXA.out];go_roundg (X.length-(j+1))
              case measure=>omega
              case rel=>exact⟨j+1,rfl,by omega,by simp,HC2.out,HQ.out⟩
            ·have d9:(bits==1)=false:=beq_false_of_ne b1;have HC2:Hid (F=(placesB m.doms bits (X.drop (j+1))&&A.all withinB)):=HC.out.trans (by rw[place_in hn,dF b2,dF b1,Bool.false_and,Bool.or_false];rfl);clear b2 b1 HC;go_wp2_with fail;rw[←HXA.out];go_roundg (X.length-(j+1))
             case measure=>omega
             case rel=>exact⟨j+1,rfl,by omega,by simp,HC2.out,HQ.out⟩
          ·have d7:decide ((m.doms.length:Int)≤(n:Int))=true:=dT (by omega);have HE:Hid (F=false):=HC.out.trans (by rw[place_out hn];rfl);go_wp2_with fail;exact bodyPost_ret (v:= .bool false) (by simp[results,Tryz.results105,go_sem]) rfl ⟨by rw[HE.out],HBB.out⟩
        ·have d5:decide ((j:Int)<(X.length:Int))=false:=dF (by omega);have HE:Hid (F=A.all withinB):=HL.out.trans (by rw[drop_none hlt];rfl);have HA2:=ZH (HA.out.below HBB.out);clear HL;go_wp2_with fail;refine(contains_any (P:=fun z=> !withinB z) HA2.out (by omega) m1_run fun z w'=>m1_any z w').mono ?_;rintro e w5 ⟨rfl,q5⟩;have HQ5:=ZH (bT HBB.out q5);have HE2:Hid (F= !(A.any fun z=> !withinB z)):=HE.out.trans (any_within A).symm;generalize (A.any fun z=> !withinB z)=R at*;go_wp2_with fail;exact bodyPost_ret (v:= .bool (!R)) (by simp[results,Tryz.results105,go_sem]) rfl ⟨by rw[HE2.out],HQ5.out⟩
      ·have d2:(C !=0)=true:=bne_iff_ne.2 e;subst e2;clear e hgo;go_wp2_with fail;go_loopg [43] X.length (fun k p wr=>∃j,k=X.length-j∧j≤X.length∧p= .int .i64 (j:Nat)∧Hid (F=(placesB m.doms bits (X.drop j)&&A.all withinB))∧Hid (Below w3.heap.size w3 wr))
       case atStart=>exact⟨0,rfl,Nat.zero_le _,rfl,HF3.out,Below.refl _ _⟩
       case round=>
        clear HF3 s0 s1 s2 s3 s4 p0 p1 p2 p3 m0 m1 m2 m3;obtain⟨j,hk,hj,rfl,HL,HQ⟩:=hrel;have HM:=ZH (HM3.out.below HQ.out);have HBB:=ZH HM.out.bel;obtain⟨s0,s1,s2,s3,s4⟩:=(HM.out.k (i:=0) rfl).fiveS;obtain⟨p0,p1,p2,p3⟩:=(HM.out.k (i:=1) rfl).four;obtain⟨m0,m1,m2,m3⟩:=(HM.out.k (i:=2) rfl).four;by_cases hlt:j<X.length
        ·have d5:decide ((j:Int)<(X.length:Int))=true:=dT (by omega);have HC:Hid (F=((placeB m.doms (decide (bits=2)||(decide (bits=1)&&decide (j+1=X.length))) (X.getD j 0)&&placesB m.doms bits (X.drop (j+1)))&&A.all withinB)):=HL.out.trans (by rw[places_step m.doms bits X j hlt]);obtain⟨gx,ox,hxa,cj⟩:=(HXX.out.below HQ.out) j hlt;replace cj:wr.cell? ⟨gx,ox+j,none⟩=some (.int .i64 (X.getD j 0)):=cj;rw[hxa]at p1;rw[hxa];have HXA:=ZH hxa;generalize X.getD j 0=z at*;clear HL hxa;by_cases z0:z<0
         ·have d6:decide (z<0)=true:=dT z0;have HE:Hid (F=false):=HC.out.trans (by rw[place_neg z0];rfl);go_wp2_with fail;exact bodyPost_ret (v:= .bool false) (by simp[results,Tryz.results105,go_sem]) rfl ⟨by rw[HE.out],HBB.out⟩
         ·obtain⟨n,rfl⟩:=Int.eq_ofNat_of_zero_le (Int.not_lt.1 z0);have d6:decide ((n:Int)<0)=false:=dF (by omega);by_cases hn:n<m.doms.length
          ·have d7:decide ((m.doms.length:Int)≤(n:Int))=false:=dF (by omega);have x1:IntKind.i64.wrap ((X.length:Int)-1)=(X.length:Int)-1:=by rw[IntKind.wrap_i64];omega
           by_cases b2:bits=2
           ·have d8:(bits==2)=true:=beq_iff_eq.2 b2;have HT:Hid (F=(truthB (m.doms.getD n [])&&(placesB m.doms bits (X.drop (j+1))&&A.all withinB))):=HC.out.trans (by rw[place_in hn,dT b2,Bool.and_assoc];rfl);clear b2 HC;obtain⟨gd,od,hda,cd⟩:=(HD.out.below HBB.out).ap n hn;replace cd:wr.cell? ⟨gd,od+n,none⟩=some (.slice (a.ds.getD n ad0).1 (m.doms.getD n []).length (a.ds.getD n ad0).2):=cd;rw[hda]at m0;have HRR:=ZH ((HD.out.below HBB.out).ar n hn);have hrl:=HDZ.out n hn;clear hda;generalize (a.ds.getD n ad0).1=DA at*;generalize (a.ds.getD n ad0).2=dc at*;generalize m.doms.getD n []=row at*;go_wp2_with fail;refine(truth_any HRR.out (by omega)).mono ?_;rintro e w5 ⟨rfl,q5⟩;have HQ5:=ZH (bT HQ.out q5);have HBB:=ZH (bT HBB.out q5);cases htr:truthB row with
            |false=>
             have HE:Hid (F=false):=HT.out.trans (by rw[htr];rfl);go_wp2_with fail;exact bodyPost_ret (v:= .bool false) (by simp[results,Tryz.results105,go_sem]) rfl ⟨by rw[HE.out],HBB.out⟩
            |true=>
             have HC2:Hid (F=(placesB m.doms bits (X.drop (j+1))&&A.all withinB)):=HT.out.trans (by rw[htr];rfl);clear HT;go_wp2_with fail;rw[←HXA.out];go_roundg (X.length-(j+1))
             case measure=>omega
             case rel=>exact⟨j+1,rfl,by omega,by simp,HC2.out,HQ5.out⟩
           ·have d8:(bits==2)=false:=beq_false_of_ne b2;by_cases b1:bits=1
            ·have d9:(bits==1)=true:=beq_iff_eq.2 b1;by_cases b3:j+1=X.length
             ·have d10:((j:Int)==(X.length:Int)-1)=true:=beq_iff_eq.2 (by omega);have HT:Hid (F=(truthB (m.doms.getD n [])&&(placesB m.doms bits (X.drop (j+1))&&A.all withinB))):=HC.out.trans (by rw[place_in hn,dT b1,dT b3,Bool.and_self,Bool.or_true,Bool.and_assoc];rfl);clear b2 b1 HC;obtain⟨gd,od,hda,cd⟩:=(HD.out.below HBB.out).ap n hn;replace cd:wr.cell? ⟨gd,od+n,none⟩=some (.slice (a.ds.getD n ad0).1 (m.doms.getD n []).length (a.ds.getD n ad0).2):=cd;rw[hda]at m0;have HRR:=ZH ((HD.out.below HBB.out).ar n hn);have hrl:=HDZ.out n hn;clear hda;generalize (a.ds.getD n ad0).1=DA at*;generalize (a.ds.getD n ad0).2=dc at*;generalize m.doms.getD n []=row at*;go_wp2_with fail;refine(truth_any HRR.out (by omega)).mono ?_;rintro e w5 ⟨rfl,q5⟩;have HQ5:=ZH (bT HQ.out q5);have HBB:=ZH (bT HBB.out q5);cases htr:truthB row with
              |false=>
               have HE:Hid (F=false):=HT.out.trans (by rw[htr];rfl);go_wp2_with fail;exact bodyPost_ret (v:= .bool false) (by simp[results,Tryz.results105,go_sem]) rfl ⟨by rw[HE.out],HBB.out⟩
              |true=>
               have HC2:Hid (F=(placesB m.doms bits (X.drop (j+1))&&A.all withinB)):=HT.out.trans (by rw[htr];rfl);clear HT;go_wp2_with fail;rw[←HXA.out];go_roundg (X.length-(j+1))
               case measure=>omega
               case rel=>exact⟨j+1,rfl,by omega,by simp,HC2.out,HQ5.out⟩
             ·have d10:((j:Int)==(X.length:Int)-1)=false:=beq_false_of_ne (by omega);have HC2:Hid (F=(placesB m.doms bits (X.drop (j+1))&&A.all withinB)):=HC.out.trans (by rw[place_in hn,dF b2,dF b3,Bool.and_false,Bool.or_false];rfl);clear b2 b1 b3 HC;go_wp2_with fail;rw[←HXA.out];go_roundg (X.length-(j+1))
              case measure=>omega
              case rel=>exact⟨j+1,rfl,by omega,by simp,HC2.out,HQ.out⟩
            ·have d9:(bits==1)=false:=beq_false_of_ne b1;have HC2:Hid (F=(placesB m.doms bits (X.drop (j+1))&&A.all withinB)):=HC.out.trans (by rw[place_in hn,dF b2,dF b1,Bool.false_and,Bool.or_false];rfl);clear b2 b1 HC;go_wp2_with fail;rw[←HXA.out];go_roundg (X.length-(j+1))
             case measure=>omega
             case rel=>exact⟨j+1,rfl,by omega,by simp,HC2.out,HQ.out⟩
          ·have d7:decide ((m.doms.length:Int)≤(n:Int))=true:=dT (by omega);have HE:Hid (F=false):=HC.out.trans (by rw[place_out hn];rfl);go_wp2_with fail;exact bodyPost_ret (v:= .bool false) (by simp[results,Tryz.results105,go_sem]) rfl ⟨by rw[HE.out],HBB.out⟩
        ·have d5:decide ((j:Int)<(X.length:Int))=false:=dF (by omega);have HE:Hid (F=A.all withinB):=HL.out.trans (by rw[drop_none hlt];rfl);have HA2:=ZH (HA.out.below HBB.out);clear HL;go_wp2_with fail;refine(contains_any (P:=fun z=> !withinB z) HA2.out (by omega) m1_run fun z w'=>m1_any z w').mono ?_;rintro e w5 ⟨rfl,q5⟩;have HQ5:=ZH (bT HBB.out q5);have HE2:Hid (F= !(A.any fun z=> !withinB z)):=HE.out.trans (any_within A).symm;generalize (A.any fun z=> !withinB z)=R at*;go_wp2_with fail;exact bodyPost_ret (v:= .bool (!R)) (by simp[results,Tryz.results105,go_sem]) rfl ⟨by rw[HE2.out],HQ5.out⟩
     ·have hh:C≠0∧has=false:=⟨fun e=>h2 (.inl e),by cases has<;>simp_all⟩;obtain⟨hc0,rfl⟩:=hh;have d2:(C !=0)=true:=bne_iff_ne.2 hc0;have HE:Hid (F=false):=HF2.out.trans (by rw[dF hc0];rfl);go_wp2_with fail;exact bodyPost_ret (v:= .bool false) (by simp[results,Tryz.results105,go_sem]) rfl ⟨by rw[HE.out],HBB.out⟩
   ·have d1:decide ((32:Int)<(X.length:Int))=true:=dT (by omega);have HE:Hid (F=false):=HF.out.trans (by rw[dF h1];rfl);go_wp2_with fail;exact bodyPost_ret (v:= .bool false) (by simp[results,Tryz.results105,go_sem]) rfl ⟨by rw[HE.out],HBB.out⟩
theorem mright_any {w:World}{a:Mp}{m:Md}(h:MdAt w a m)(hz:MdSz m):Calls Tryz.prog 58 #[.agg (mdC a m)] w fun e w'=>e= .returned (.bool (rightM m))∧Below w.heap.size w w':=by
 have HH:=ZH h;have HZ:=ZH hz;have z1:=hz.doms;have z2:=hz.cons;have M:=(Mem.start w).new 25 (mdC a m);have HBB:=ZH M.bel;obtain⟨m0,m1,m2,m3⟩:=(M.k (i:=0) rfl).four;obtain⟨F,hF⟩:∃F,rightM m=F:=⟨_,rfl⟩;have HF:Hid (F=(decide (m.doms.length≤64)&&(decide (m.cons.length≤64)&&(m.doms.all domB&&(m.cons.all (mayC m.doms)&&askB m))))):=hF.symm;rw[hF];have HM:=ZH M;clear h hz hF M;by_cases h1:m.doms.length≤64
 ·have d1:decide ((64:Int)<(m.doms.length:Int))=false:=dF (by omega);by_cases h2:m.cons.length≤64
  ·have d2:decide ((64:Int)<(m.cons.length:Int))=false:=dF (by omega);have HF2:Hid (F=((m.doms.drop 0).all domB&&(m.cons.all (mayC m.doms)&&askB m))):=HF.out.trans (by rw[dT h1,dT h2];rfl);clear HF;go_enter Tryz.func58,Tryz.ntmps58;go_wp2_with fail;go_loopg [20] m.doms.length (fun k p wr=>∃j,k=m.doms.length-j∧j≤m.doms.length∧p= .int .i64 (j:Nat)∧Hid (F=((m.doms.drop j).all domB&&(m.cons.all (mayC m.doms)&&askB m)))∧Hid (Mem w wr [(w.heap.size,25,mdC a m)] []))
   case atStart=>exact⟨0,rfl,Nat.zero_le _,rfl,HF2.out,HM.out⟩
   case round=>
    clear HF2 HM HBB m0 m1 m2 m3;obtain⟨j,hk,hj,rfl,HL,HM⟩:=hrel;have HBB:=ZH HM.out.bel;obtain⟨m0,m1,m2,m3⟩:=(HM.out.k (i:=0) rfl).four;by_cases hlt:j<m.doms.length
    ·have d5:decide ((j:Int)<(m.doms.length:Int))=true:=dT (by omega);have HC:Hid (F=((domB (m.doms.getD j [])&&(m.doms.drop (j+1)).all domB)&&(m.cons.all (mayC m.doms)&&askB m))):=HL.out.trans (by rw[drop_at (z:=[]) hlt,List.all_cons]);obtain⟨gd,od,hda,cd⟩:=(HH.out.ds.below HBB.out).ap j hlt;replace cd:wr.cell? ⟨gd,od+j,none⟩=some (.slice (a.ds.getD j ad0).1 (m.doms.getD j []).length (a.ds.getD j ad0).2):=cd;rw[hda];have HXA:=ZH hda;have HRR:=ZH ((HH.out.ds.below HBB.out).ar j hlt);have hrl:(m.doms.getD j []).length≤1000:=HZ.out.ds _ (by rw[gE,gG hlt];exact List.getElem_mem hlt);rw[hda]at m0;clear hda HL;generalize (a.ds.getD j ad0).1=DA at*;generalize (a.ds.getD j ad0).2=dc at*;generalize m.doms.getD j []=row at*;go_wp2_with fail;refine(domain_any HRR.out (by omega)).mono ?_;rintro e w5 ⟨rfl,q5⟩;have HM5:=ZH (HM.out.below q5);have HBB:=ZH (bT HBB.out q5);clear cd q5;cases htr:domB row with
     |false=>
      have HE:Hid (F=false):=HC.out.trans (by rw[htr];rfl);go_wp2_with fail;exact bodyPost_ret (v:= .bool false) (by simp[results,Tryz.results58,go_sem]) rfl ⟨by rw[HE.out],HBB.out⟩
     |true=>
      have HC2:Hid (F=((m.doms.drop (j+1)).all domB&&(m.cons.all (mayC m.doms)&&askB m))):=HC.out.trans (by rw[htr,Bool.true_and]);clear HC;go_wp2_with fail;rw[←HXA.out];go_roundg (m.doms.length-(j+1))
      case measure=>omega
      case rel=>exact⟨j+1,rfl,by omega,by simp,HC2.out,HM5.out⟩
    ·have d5:decide ((j:Int)<(m.doms.length:Int))=false:=dF (by omega);have HF3:Hid (F=((m.cons.drop 0).all (mayC m.doms)&&askB m)):=HL.out.trans (by rw[drop_none hlt];rfl);clear HL;obtain⟨W0,rfl⟩:∃W0,W0=wr:=⟨_,rfl⟩;go_wp2_with fail;go_loopg [31] m.cons.length (fun k p wr=>∃j,k=m.cons.length-j∧j≤m.cons.length∧p= .int .i64 (j:Nat)∧Hid (F=((m.cons.drop j).all (mayC m.doms)&&askB m))∧Hid (Mem w wr [(w.heap.size,25,mdC a m)] []))
     case atStart=>exact⟨0,rfl,Nat.zero_le _,rfl,HF3.out,HM.out⟩
     case round=>
      clear HF3 HM HBB m0 m1 m2 m3 d5 hlt;obtain⟨i,hk2,hi,rfl,HL,HM⟩:=hrel;have HBB:=ZH HM.out.bel;obtain⟨m0,m1,m2,m3⟩:=(HM.out.k (i:=0) rfl).four;by_cases hlt:i<m.cons.length
      ·have d5:decide ((i:Int)<(m.cons.length:Int))=true:=dT (by omega);have HC:Hid (F=((mayC m.doms (m.cons.getD i cn0)&&(m.cons.drop (i+1)).all (mayC m.doms))&&askB m)):=HL.out.trans (by rw[drop_at (z:=cn0) hlt,List.all_cons]);obtain⟨gc,oc,hca,c0,c1,c2,c3⟩:=(HH.out.cs.below HBB.out).at hlt;rw[hca];have HXA:=ZH hca;have HCR:=ZH ((HH.out.cs.below HBB.out).cr i hlt);have hcl:=HZ.out.cs (m.cons.getD i cn0) (by rw[gE,gG hlt];exact List.getElem_mem hlt);rw[hca]at m1;clear hca HL;generalize m.cons.getD i cn0=cc at*;generalize a.xs.getD i ad0=xa at*;generalize a.as_.getD i ad0=aa at*;obtain⟨hcx,hcal⟩:=hcl;have HM2:=ZH (HM.out.new 69 (cnC xa aa cc));have HBW:=ZH HM2.out.bel;obtain⟨n0,n1,n2,n3⟩:=(HM2.out.k (i:=1) rfl).four;obtain⟨b0,b1,b2,b3⟩:=(HM2.out.k (i:=0) rfl).four;go_wp2_with fail;refine(may_any (a:=a) (m:=m) (HH.out.ds.below (bT HBB.out (bA1 _ _))) z1 (fun i hi=>HZ.out.ds _ (by rw[gE,gG hi];exact List.getElem_mem hi)) (HCR.out.below (bA1 _ _)) hcx hcal).mono ?_;rintro e w5 ⟨rfl,q5⟩;have HM5:=ZH ((HM2.out.below q5).sub (Ks':=[(w.heap.size,25,mdC a m)]) (Rs':=[]) (by simp) (by simp));have HBB:=ZH HM5.out.bel;clear c0 c1 c2 c3 n0 n1 n2 n3 b0 b1 b2 b3 q5;cases htr:mayC m.doms cc with
       |false=>
        have HE:Hid (F=false):=HC.out.trans (by rw[htr];rfl);go_wp2_with fail;exact bodyPost_ret (v:= .bool false) (by simp[results,Tryz.results58,go_sem]) rfl ⟨by rw[HE.out],HBB.out⟩
       |true=>
        have HC2:Hid (F=((m.cons.drop (i+1)).all (mayC m.doms)&&askB m)):=HC.out.trans (by rw[htr,Bool.true_and]);clear HC;go_wp2_with fail;rw[←HXA.out];go_roundg (m.cons.length-(i+1))
        case measure=>omega
        case rel=>exact⟨i+1,rfl,by omega,by simp,HC2.out,HM5.out⟩
      ·have d5:decide ((i:Int)<(m.cons.length:Int))=false:=dF (by omega);have HE0:Hid (F=askB m):=HL.out.trans (by rw[drop_none hlt];rfl);clear HL;by_cases g0:m.ask=0
       ·have d6:(m.ask==0)=true:=beq_iff_eq.2 g0;have HE:Hid (F=decide (m.goal=0)):=HE0.out.trans (by unfold askB;rw[if_pos g0]);go_wp2_with fail;exact bodyPost_ret (v:= .bool (decide (m.goal=0))) (by simp[results,Tryz.results58,go_sem];rfl) rfl ⟨by rw[HE.out],HBB.out⟩
       ·have d6:(m.ask==0)=false:=beq_false_of_ne g0;by_cases g1:m.ask=1∨m.ask=2
        ·have HE:Hid (F=(decide (0≤m.goal)&&decide (m.goal<m.doms.length))):=HE0.out.trans (by unfold askB;rw[if_neg g0,if_pos g1]);by_cases g2:0≤m.goal
         ·have d7:decide (0≤m.goal)=true:=dT g2;have HE2:Hid (F=decide (m.goal<m.doms.length)):=HE.out.trans (by rw[d7,Bool.true_and]);clear HE;rcases g1 with g1|g1
          ·have d8:(m.ask==1)=true:=beq_iff_eq.2 g1;go_wp2_with fail;exact bodyPost_ret (v:= .bool (decide (m.goal<m.doms.length))) (by simp[results,Tryz.results58,go_sem]) rfl ⟨by rw[HE2.out],HBB.out⟩
          ·have d8:(m.ask==1)=false:=beq_false_of_ne (by omega);have d9:(m.ask==2)=true:=beq_iff_eq.2 g1;go_wp2_with fail;exact bodyPost_ret (v:= .bool (decide (m.goal<m.doms.length))) (by simp[results,Tryz.results58,go_sem]) rfl ⟨by rw[HE2.out],HBB.out⟩
         ·have d7:decide (0≤m.goal)=false:=dF g2;have HE2:Hid (F=false):=HE.out.trans (by rw[d7,Bool.false_and]);clear HE;have HE:=HE2;rcases g1 with g1|g1
          ·have d8:(m.ask==1)=true:=beq_iff_eq.2 g1;go_wp2_with fail;exact bodyPost_ret (v:= .bool false) (by simp[results,Tryz.results58,go_sem]) rfl ⟨by rw[HE.out],HBB.out⟩
          ·have d8:(m.ask==1)=false:=beq_false_of_ne (by omega);have d9:(m.ask==2)=true:=beq_iff_eq.2 g1;go_wp2_with fail;exact bodyPost_ret (v:= .bool false) (by simp[results,Tryz.results58,go_sem]) rfl ⟨by rw[HE.out],HBB.out⟩
        ·have d8:(m.ask==1)=false:=beq_false_of_ne (by omega);have d9:(m.ask==2)=false:=beq_false_of_ne (by omega);have HE:Hid (F=false):=HE0.out.trans (by unfold askB;rw[if_neg g0,if_neg g1]);go_wp2_with fail;exact bodyPost_ret (v:= .bool false) (by simp[results,Tryz.results58,go_sem]) rfl ⟨by rw[HE.out],HBB.out⟩
  ·have d2:decide ((64:Int)<(m.cons.length:Int))=true:=dT (by omega);have HE:Hid (F=false):=HF.out.trans (by rw[dF h2,Bool.false_and,Bool.and_false]);go_enter Tryz.func58,Tryz.ntmps58;go_wp2_with fail;exact bodyPost_ret (v:= .bool false) (by simp[results,Tryz.results58,go_sem]) rfl ⟨by rw[HE.out],HBB.out⟩
 ·have d1:decide ((64:Int)<(m.doms.length:Int))=true:=dT (by omega);have HE:Hid (F=false):=HF.out.trans (by rw[dF h1,Bool.false_and]);go_enter Tryz.func58,Tryz.ntmps58;go_wp2_with fail;exact bodyPost_ret (v:= .bool false) (by simp[results,Tryz.results58,go_sem]) rfl ⟨by rw[HE.out],HBB.out⟩
theorem rlxfit_any {w:World}{a:Mp}{m:Md}{D:Option Addr}{Dc:Nat}{ds:List Adr}{d:List (List (Int×Int))}(h:MdAt w a m)(hd:DsAt w D ds d)(hz:MdSz m)(hzd:MdSz {m with doms:=d}):Calls Tryz.prog 29 #[.agg (mdC a m),.slice D d.length Dc] w fun e w'=>e= .returned (.bool (fitM m d))∧Below w.heap.size w w':=by
 have HR:Hid (∀w',Below w.heap.size w w'→Calls Tryz.prog 58 #[.agg #[.slice D d.length Dc,.slice a.cons.1 m.cons.length a.cons.2,iw m.ask,iw m.goal]] w' fun e w2=>e= .returned (.bool (rightM {m with doms:=d}))∧Below w'.heap.size w' w2):=fun w' q=>
  mright_any (a:={a with doms:=(D,Dc),ds:=ds}) (m:={m with doms:=d}) ⟨hd.below q,h.cs.below q⟩ hzd
 have M:=(Mem.start w).new 25 (mdC a m);obtain⟨m0,m1,m2,m3⟩:=(M.k (i:=0) rfl).four;have z1:=hz.doms;have z2:d.length≤1000:=hzd.doms;clear h hd hz hzd;by_cases hl:d.length=m.doms.length
 ·have d1:((d.length:Int) !=(m.doms.length:Int))=false:=by rw[hl];simp
  obtain⟨F,hF⟩:∃F,rightM {m with doms:=d}=F:=⟨_,rfl⟩;have hf:fitM m d=F:=by unfold fitM;rw[dT hl,hF];rfl
  rw[hF]at HR;rw[hf];clear hF hf hl;go_enter Tryz.func29,Tryz.ntmps29;go_wp2_with fail;refine(HR.out _ (bA1 _ _)).mono ?_;rintro e w6 ⟨rfl,q6⟩;have HB:=ZH (bT (bA1 _ _) q6);clear q6;go_wp2_with fail;exact bodyPost_ret (v:= .bool F) (by simp[results,Tryz.results29,go_sem]) rfl ⟨rfl,HB.out⟩
 ·have d1:((d.length:Int) !=(m.doms.length:Int))=true:=bne_iff_ne.2 (by omega);have hf:fitM m d=false:=by unfold fitM;rw[dF hl];rfl
  rw[hf];have HB:=ZH M.bel;go_enter Tryz.func29,Tryz.ntmps29;go_wp2_with fail;exact bodyPost_ret (v:= .bool false) (by simp[results,Tryz.results29,go_sem]) rfl ⟨rfl,HB.out⟩
theorem dom_set {l:List (Int×Int)}(h:domB l=true):setB l=true:=by
 unfold domB at h;rw[Bool.and_eq_true]at h;exact h.1
theorem info_range:(Tryz.prog.info? 65).map (·.size)=some 2:=by kernel_rfl
theorem ends_good {w:World}{A:Option Addr}{c:Nat}{l:List (Int×Int)}(h:RRow w A l)(hs:l.length≤1000000)(hd:domB l=true):Calls Tryz.prog 30 #[.slice A l.length c] w fun e w'=>e= .returned (.tuple #[.agg #[.int .i64 (loD l),.int .i64 (hiD l)],.bool true])∧Below w.heap.size w w':=by
 have HR:=ZH (fun(w':World)(q:Below w.heap.size w w')=>setright_any (c:=c) (h.below q) hs);have HH:=ZH h;rw[dom_set hd]at HR;cases l with
 |nil=>cases hd
 |cons r l=>
  obtain⟨g,o,rfl,c0,_⟩:=h.at (j:=0) (by simp);obtain⟨g',o',e',_,c1⟩:=h.at (j:=l.length) (by simp);cases e';have e0:loD (r::l)=r.1:=rfl;have e1:hiD (r::l)=((r::l).getD l.length (0,0)).2:=by
   unfold hiD;rw[List.getLastD_cons];congr 1;rw[List.getLastD_eq_getLast?,List.getLast?_eq_getElem?];cases l with
   |nil=>rfl
   |cons y l=>
    rw[gE];simp
  rw[e0,e1];replace c0:w.cell? ⟨g,o,none⟩=some (.int .i64 r.1):=by simpa using c0
  have M:=(Mem.start w).new 65 #[.int .i64 0,.int .i64 0];have C0:=Lk.of c0;have C1:∀w',Below w.heap.size w w'→w'.cell? ⟨g,o+l.length*2+1,none⟩=some (.int .i64 ((r::l).getD l.length (0,0)).2):=Lk.of c1;rw[List.length_cons]at HR hs⊢;generalize ((r::l).getD l.length (0,0)).2=hi at*;generalize r.1=lo at*;generalize l.length=n at*;clear h e0 e1 c0 c1 hd HH;have d0:(((n+1:Nat):Int)==0)=false:=beq_false_of_ne (by omega);have x1:IntKind.i64.wrap (n:Int)=(n:Int):=by rw[IntKind.wrap_i64];omega
  have hb1:(n:Int)<(n:Int)+1:=by omega
  go_enter Tryz.func30,Tryz.ntmps30;go_wp2_with fail;refine(HR.out _ M.bel).mono ?_;rintro e w1 ⟨rfl,q1⟩;replace M:=M.below q1;clear q1 HR;go_upto_region 3 with fail;refine region_st (n:=14) (frame:= ?frame1) (fun jK=>[kF (.slice (some ⟨g,o,none⟩) (n+1) c),kP g o,kP g o,kI lo,kF (.slice (some ⟨g,o,none⟩) (n+1) c),kF (.slice (some ⟨g,o,none⟩) (n+1) c),kI (((n+1):Int)),kI ((n:Nat)),kP g (o+n*2),kP g (o+n*2+1),kI hi,kF (.agg #[.int .i64 lo,.int .i64 hi]),.none,kB true].getD jK .none) [⟨w.heap.size,12,65,#[.int .i64 0,.int .i64 0],.fix #[.int .i64 lo,.int .i64 hi]⟩] (by kernel_rfl) (by kernel_rfl) (by kernel_rfl) rfl (Mem.tailK M) (own_of M (by omega) (by simp<;>omega) rfl) own_one ?_ ?_ ?_
  case refine_1=>
   intro s;simp only[fr,Act.put,zA,zB,zC,zD,zE,zF,Nat.reduceAdd];rfl
  case refine_2=>
   iterate 14 (refine SN ?_ ?_;rotate_left)
   exact Steps.nil;all_goals (intro L s w9 hN hU hi hS K hK;dsimp only at hK⊢;simp only[Act.put,zD,zE,zF]at hK)
   ·go_simp;exact hS.o1 hK
   ·simp only[hS.f hN 0]at hK⊢;go_simp;exact hS.o1 hK
   ·simp only[hS.f hN 1]at hK⊢;go_simp;exact hS.o1 hK
   ·simp only[hS.f hN 2]at hK⊢;have u0:=C0 _ hS.mem.bel;go_simp;exact hS.o1 hK
   iterate 2 (go_simp;exact hS.o1 hK)
   ·simp only[hS.f hN 5]at hK⊢;go_simp;exact hS.o1 hK
   ·simp only[hS.f hN 6]at hK⊢;go_simp;exact hS.o1 hK
   ·simp only[hS.f hN 4,hS.f hN 7]at hK⊢;go_simp;exact hS.o1 hK
   ·simp only[hS.f hN 8]at hK⊢;go_simp;exact hS.o1 hK
   ·simp only[hS.f hN 9]at hK⊢;have u0:=C1 _ hS.mem.bel;go_simp;exact hS.o1 hK
   ·simp only[hS.f hN 3,hS.f hN 10]at hK⊢;go_simp;exact hS.o1 hK
   ·simp only[hS.f hN 11]at hK⊢;obtain⟨_,_,_,cs9,b9,n9,z9,_⟩:=hS.own_at 0 rfl;obtain rfl:=z9 hi.out;refine ite_of rfl ?_;refine wp_store_row _ _ _ rfl (w.heap.size) _ rfl rfl _ _ b9 info_range rfl (by rw[←Array.all_toList];rfl) ?_;simp only[Act.put];exact hK.out undef _ (hS.fillOwn (u:=undef) rfl (k:=0) rfl rfl rfl (sRG _ _ _) (b9.row _) rfl rfl)
   ·go_simp;exact hS.o1 hK
  intro L s w9 hall hS;obtain⟨_,_,_,ocs,ob,on,_,oz⟩:=hS.own_at 0 rfl;obtain rfl:=oz (hall 12 (by decide));have x1:_=some (Value.int .i64 lo):=ob.cell 0;have x2:_=some (Value.int .i64 hi):=ob.cell 1;have e13:=hS.fx 13 rfl rfl (hall 13 (by decide));have HB:=ZH hS.mem.bel;simp only[e13];go_wp2_with fail;exact bodyPost_ret (v:= .tuple #[.agg #[.int .i64 lo,.int .i64 hi],.bool true]) (by simp[results,Tryz.results30,go_sem,x1,x2]) rfl ⟨rfl,HB.out⟩
theorem ad1_run (args:Array Value)(w:World):Sem.run Tryz.prog (callFunc 108 args) w= .ok (.enter 108 args) w:=by kernel_rfl
theorem ad1_any (z:Int)(w:World):Calls Tryz.prog 108 #[.int .i64 z] w fun e w'=>e= .returned (.bool (!withinB z))∧Below w.heap.size w w':=by
 by_cases h1:1048576<z
 ·have d1:decide (1048576<z)=true:=dT h1;have hw:withinB z=false:=by unfold withinB;rw[dF (show ¬z≤1048576 by omega),Bool.and_false]
  rw[hw];go_enter Tryz.func108,Tryz.ntmps108;go_wp2_with fail;exact bodyPost_ret (v:= .bool true) (by simp[results,Tryz.results108,go_sem]) rfl ⟨rfl,Below.refl _ _⟩
 ·have d1:decide (1048576<z)=false:=dF h1;have hw:withinB z= !decide (z< -1048576):=by
   unfold withinB;rw[dT (show z≤1048576 by omega),Bool.and_true];by_cases h2:z< -1048576
   ·rw[dT h2,dF (show ¬ -1048576≤z by omega)];rfl
   ·rw[dF h2,dT (show-1048576≤z by omega)];rfl
  rw[hw,Bool.not_not];generalize hb:decide (z< -1048576)=b;go_enter Tryz.func108,Tryz.ntmps108;go_wp2_with fail;exact bodyPost_ret (v:= .bool b) (by simp[results,Tryz.results108,go_sem];try (rw[←hb];simp)) rfl ⟨rfl,Below.refl _ _⟩
end Go.Proofs.YtecfcjdgmpopjaaGreat

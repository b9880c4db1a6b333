/-
  Joined texts: KG, KH, KJ, KK.
-/
import Derived.Test.YtecfcjdgmpopjaaGreatKF
import Derived.Defers
import Derived.Recover
set_option maxHeartbeats 8000000
set_option maxRecDepth 100000
set_option linter.unusedSimpArgs false
set_option linter.unusedVariables false
namespace Go.Proofs.YtecfcjdgmpopjaaGreat
open Go.RowKit Num
theorem nearL_step (most z:Int)(l:List Int):nearL most (z::l)=((decide (-most≤z)&&decide (z≤most))&&nearL most l):=rfl
theorem nearS_any {w:World}{A:Option Addr}{c:Nat}{l:List Int}(h:IRow w A l)(hs:l.length≤1000000):Calls Tryz.prog 35 #[.slice A l.length c,.int .i64 1048576] w fun e w'=>e= .returned (.bool (nearL 1048576 l))∧Below w.heap.size w w':=by
 have HI:=ZH h;obtain⟨R,hR⟩:∃R,nearL 1048576 l=R:=⟨_,rfl⟩;rw[hR];have HR:Hid (R=nearL 1048576 (l.drop 0)):=hR.symm;clear hR h;go_enter Tryz.func35,Tryz.ntmps35;go_wp2_with fail;go_loopg [9] l.length (fun k p wr=>∃j,k=l.length-j∧j≤l.length∧p= .int .i64 (j:Nat)∧Hid (R=nearL 1048576 (l.drop j))∧Below w.heap.size w wr)
 case atStart=>exact⟨0,rfl,Nat.zero_le _,rfl,HR.out,Below.refl _ _⟩
 case round=>
  clear HR;obtain⟨j,hk,hj,rfl,HL,hq⟩:=hrel;by_cases hlt:j<l.length
  ·have d1:decide ((j:Int)<(l.length:Int))=true:=dT (by omega);obtain⟨g,o,rfl,cj⟩:=(HI.out.below hq) j hlt;replace cj:wr.cell? ⟨g,o+j,none⟩=some (.int .i64 (l.getD j 0)):=cj;have HC:Hid (R=((decide (-1048576≤l.getD j 0)&&decide (l.getD j 0≤1048576))&&nearL 1048576 (l.drop (j+1)))):=by
    show _=_;rw[HL.out,drop_at (z:=0) hlt,nearL_step]
   generalize l.getD j 0=z at*;clear HL;by_cases h1:z< -1048576
   ·have d2:decide (z< -1048576)=true:=dT h1;have HC2:Hid (R=false):=HC.out.trans (by rw[dF (show ¬ -1048576≤z by omega)];rfl);clear HC;go_wp2_with fail;exact bodyPost_ret (v:= .bool false) (by simp[results,Tryz.results35,go_sem]) rfl ⟨by rw[HC2.out],hq⟩
   ·have d2:decide (z< -1048576)=false:=dF h1;by_cases h2:1048576<z
    ·have d3:decide (1048576<z)=true:=dT h2;have HC2:Hid (R=false):=HC.out.trans (by rw[dF (show ¬z≤1048576 by omega),Bool.and_false];rfl);clear HC;go_wp2_with fail;exact bodyPost_ret (v:= .bool false) (by simp[results,Tryz.results35,go_sem]) rfl ⟨by rw[HC2.out],hq⟩
    ·have d3:decide (1048576<z)=false:=dF h2;have HC2:Hid (R=nearL 1048576 (l.drop (j+1))):=HC.out.trans (by rw[dT (show-1048576≤z by omega),dT (show z≤1048576 by omega)];rfl);clear HC;go_wp2_with fail;go_roundg (l.length-(j+1))
     case measure=>omega
     case rel=>exact⟨j+1,rfl,by omega,by simp,HC2.out,hq⟩
  ·have d1:decide ((j:Int)<(l.length:Int))=false:=dF (by omega);have HC2:Hid (R=true):=by
    show _=_;rw[HL.out,drop_none hlt];rfl
   clear HL;go_wp2_with fail;exact bodyPost_ret (v:= .bool true) (by simp[results,Tryz.results35,go_sem]) rfl ⟨by rw[HC2.out],hq⟩
theorem nearB_any {w:World}{A:Option Addr}{c:Nat}{l:List Int}(h:IRow w A l)(hs:l.length≤1000000):Calls Tryz.prog 35 #[.slice A l.length c,.int .i64 1099511627776] w fun e w'=>e= .returned (.bool (nearL 1099511627776 l))∧Below w.heap.size w w':=by
 have HI:=ZH h;obtain⟨R,hR⟩:∃R,nearL 1099511627776 l=R:=⟨_,rfl⟩;rw[hR];have HR:Hid (R=nearL 1099511627776 (l.drop 0)):=hR.symm;clear hR h;go_enter Tryz.func35,Tryz.ntmps35;go_wp2_with fail;go_loopg [9] l.length (fun k p wr=>∃j,k=l.length-j∧j≤l.length∧p= .int .i64 (j:Nat)∧Hid (R=nearL 1099511627776 (l.drop j))∧Below w.heap.size w wr)
 case atStart=>exact⟨0,rfl,Nat.zero_le _,rfl,HR.out,Below.refl _ _⟩
 case round=>
  clear HR;obtain⟨j,hk,hj,rfl,HL,hq⟩:=hrel;by_cases hlt:j<l.length
  ·have d1:decide ((j:Int)<(l.length:Int))=true:=dT (by omega);obtain⟨g,o,rfl,cj⟩:=(HI.out.below hq) j hlt;replace cj:wr.cell? ⟨g,o+j,none⟩=some (.int .i64 (l.getD j 0)):=cj;have HC:Hid (R=((decide (-1099511627776≤l.getD j 0)&&decide (l.getD j 0≤1099511627776))&&nearL 1099511627776 (l.drop (j+1)))):=by
    show _=_;rw[HL.out,drop_at (z:=0) hlt,nearL_step]
   generalize l.getD j 0=z at*;clear HL;by_cases h1:z< -1099511627776
   ·have d2:decide (z< -1099511627776)=true:=dT h1;have HC2:Hid (R=false):=HC.out.trans (by rw[dF (show ¬ -1099511627776≤z by omega)];rfl);clear HC;go_wp2_with fail;exact bodyPost_ret (v:= .bool false) (by simp[results,Tryz.results35,go_sem]) rfl ⟨by rw[HC2.out],hq⟩
   ·have d2:decide (z< -1099511627776)=false:=dF h1;by_cases h2:1099511627776<z
    ·have d3:decide (1099511627776<z)=true:=dT h2;have HC2:Hid (R=false):=HC.out.trans (by rw[dF (show ¬z≤1099511627776 by omega),Bool.and_false];rfl);clear HC;go_wp2_with fail;exact bodyPost_ret (v:= .bool false) (by simp[results,Tryz.results35,go_sem]) rfl ⟨by rw[HC2.out],hq⟩
    ·have d3:decide (1099511627776<z)=false:=dF h2;have HC2:Hid (R=nearL 1099511627776 (l.drop (j+1))):=HC.out.trans (by rw[dT (show-1099511627776≤z by omega),dT (show z≤1099511627776 by omega)];rfl);clear HC;go_wp2_with fail;go_roundg (l.length-(j+1))
     case measure=>omega
     case rel=>exact⟨j+1,rfl,by omega,by simp,HC2.out,hq⟩
  ·have d1:decide ((j:Int)<(l.length:Int))=false:=dF (by omega);have HC2:Hid (R=true):=by
    show _=_;rw[HL.out,drop_none hlt];rfl
   clear HL;go_wp2_with fail;exact bodyPost_ret (v:= .bool true) (by simp[results,Tryz.results35,go_sem]) rfl ⟨by rw[HC2.out],hq⟩
structure PgSz (p:Pg):Prop where
 lo:p.lo.length≤1000000
 hi:p.hi.length≤1000000
 c:p.c.length≤1000000
 b:p.b.length≤1000000
 a:p.a.length≤1000000
 r:∀i,i<p.a.length→(p.a.getD i []).length≤1000000
def rightA (n:Nat)(a:List (List Int)):Bool:=a.all fun r=>decide (r.length=n)&&nearL 1048576 r
theorem rightA_step (n:Nat)(r:List Int)(a:List (List Int)):rightA n (r::a)=((decide (r.length=n)&&nearL 1048576 r)&&rightA n a):=rfl
theorem endsL_step (l h:Int)(ls hs:List Int):endsL (l::ls) (h::hs)=(decide (l≤h)&&endsL ls hs):=rfl
theorem rightPg_eq (p:Pg):rightPg p=(decide (p.lo.length≤64)&&(decide (p.hi.length=p.lo.length)&&(decide (p.c.length=p.lo.length)&&(decide (p.a.length=p.b.length)&&(decide (p.a.length≤160)&&
 (nearL 1048576 p.lo&&(nearL 1048576 p.hi&&(nearL 1048576 p.c&&(nearL 1099511627776 p.b&&(endsL p.lo p.hi&&rightA p.lo.length p.a)))))))))):=rfl
theorem pright_any {w:World}{m:Pa}{p:Pg}(hp:PgAt w m p)(hz:PgSz p):Calls Tryz.prog 13 #[.agg (pgC m p)] w fun e w'=>e= .returned (.bool (rightPg p))∧Below w.heap.size w w':=by
 have HP:=ZH hp;have HZ:=ZH hz;have HE:=ZH (rightPg_eq p);obtain⟨R,hR⟩:∃R,rightPg p=R:=⟨_,rfl⟩;rw[hR]at HE⊢;have hb0:=Blk.new w tyP (pgC m p);have HB0:=ZH hb0;have HQ0:=ZH (bA1 w (.cells (pgC m p) tyP));obtain⟨p0,p1,p2,p3,p4⟩:=hb0.fiveP;clear hR hp hz hb0;go_enter Tryz.func13,Tryz.ntmps13;have zlo:=HZ.out.lo;have zhi:=HZ.out.hi;have zc:=HZ.out.c;have zb:=HZ.out.b;have za:=HZ.out.a;by_cases g1:p.lo.length≤64
 ·have d1:decide ((64:Int)<(p.lo.length:Int))=false:=dF (by omega);have HE:=ZH (HE.out.trans (by rw[dT g1,Bool.true_and]));by_cases g2:p.hi.length=p.lo.length
  ·have d2:((p.hi.length:Int) !=(p.lo.length:Int))=false:=by rw[g2];simp
   have HE:=ZH (HE.out.trans (by rw[dT g2,Bool.true_and]));have hh1:p.hi.length≤p.lo.length:=by omega
   have hh2:p.lo.length≤p.hi.length:=by omega
   clear g2;by_cases g3:p.c.length=p.lo.length
   ·have d3:((p.c.length:Int) !=(p.lo.length:Int))=false:=by rw[g3];simp
    have HE:=ZH (HE.out.trans (by rw[dT g3,Bool.true_and]));clear g3;by_cases g4:p.a.length=p.b.length
    ·have d4:((p.a.length:Int) !=(p.b.length:Int))=false:=by rw[g4];simp
     have HE:=ZH (HE.out.trans (by rw[dT g4,Bool.true_and]));clear g4;by_cases g5:p.a.length≤160
     ·have d5:decide ((160:Int)<(p.a.length:Int))=false:=dF (by omega);have HE:=ZH (HE.out.trans (by rw[dT g5,Bool.true_and]));have hq1:=HQ0;have hb1:=ZH (HB0.out:Blk _ w.heap.size tyP (pgC m p));have ha160:p.a.length≤160:=g5;clear g5;obtain⟨N1,hN1⟩:∃N1,nearL 1048576 p.lo=N1:=⟨_,rfl⟩;obtain⟨N2,hN2⟩:∃N2,nearL 1048576 p.hi=N2:=⟨_,rfl⟩;obtain⟨N3,hN3⟩:∃N3,nearL 1048576 p.c=N3:=⟨_,rfl⟩;obtain⟨N4,hN4⟩:∃N4,nearL 1099511627776 p.b=N4:=⟨_,rfl⟩;have C1:Hid (∀w',Below w.heap.size w w'→Calls Tryz.prog 35 #[.slice m.lo.1 p.lo.length m.lo.2,.int .i64 1048576] w' fun e w2=>e= .returned (.bool N1)∧Below w'.heap.size w' w2):=fun w' q=>by rw[←hN1];exact nearS_any (HP.out.lo.below q) zlo
      have C2:Hid (∀w',Below w.heap.size w w'→Calls Tryz.prog 35 #[.slice m.hi.1 p.hi.length m.hi.2,.int .i64 1048576] w' fun e w2=>e= .returned (.bool N2)∧Below w'.heap.size w' w2):=fun w' q=>by rw[←hN2];exact nearS_any (HP.out.hi.below q) zhi
      have C3:Hid (∀w',Below w.heap.size w w'→Calls Tryz.prog 35 #[.slice m.c.1 p.c.length m.c.2,.int .i64 1048576] w' fun e w2=>e= .returned (.bool N3)∧Below w'.heap.size w' w2):=fun w' q=>by rw[←hN3];exact nearS_any (HP.out.c.below q) zc
      have C4:Hid (∀w',Below w.heap.size w w'→Calls Tryz.prog 35 #[.slice m.b.1 p.b.length m.b.2,.int .i64 1099511627776] w' fun e w2=>e= .returned (.bool N4)∧Below w'.heap.size w' w2):=fun w' q=>by rw[←hN4];exact nearB_any (HP.out.b.below q) zb
      rw[hN1,hN2,hN3,hN4]at HE;clear hN1 hN2 hN3 hN4;go_wp2_with fail;refine(C1.out _ hq1.out).mono ?_;rintro e w1 ⟨rfl,q⟩;have hq1:=ZH (bT hq1.out q);have hb1:=ZH (hb1.out.below q ZL);obtain⟨p0,p1,p2,p3,p4⟩:=hb1.out.fiveP;clear q;cases N1 with
      |false=>
       have HC:Hid (R=false):=HE.out;go_wp2_with fail;exact bodyPost_ret (v:= .bool false) (by simp[results,Tryz.results13,go_sem]) rfl ⟨by rw[HC.out],hq1.out⟩
      |true=>
       go_wp2_with fail;refine(C2.out _ hq1.out).mono ?_;rintro e w1 ⟨rfl,q⟩;have hq1:=ZH (bT hq1.out q);have hb1:=ZH (hb1.out.below q ZL);obtain⟨p0,p1,p2,p3,p4⟩:=hb1.out.fiveP;clear q;cases N2 with
       |false=>
        have HC:Hid (R=false):=HE.out;go_wp2_with fail;exact bodyPost_ret (v:= .bool false) (by simp[results,Tryz.results13,go_sem]) rfl ⟨by rw[HC.out],hq1.out⟩
       |true=>
        go_wp2_with fail;refine(C3.out _ hq1.out).mono ?_;rintro e w1 ⟨rfl,q⟩;have hq1:=ZH (bT hq1.out q);have hb1:=ZH (hb1.out.below q ZL);obtain⟨p0,p1,p2,p3,p4⟩:=hb1.out.fiveP;clear q;cases N3 with
        |false=>
         have HC:Hid (R=false):=HE.out;go_wp2_with fail;exact bodyPost_ret (v:= .bool false) (by simp[results,Tryz.results13,go_sem]) rfl ⟨by rw[HC.out],hq1.out⟩
        |true=>
         go_wp2_with fail;refine(C4.out _ hq1.out).mono ?_;rintro e w1 ⟨rfl,q⟩;have hq1:=ZH (bT hq1.out q);have hb1:=ZH (hb1.out.below q ZL);obtain⟨p0,p1,p2,p3,p4⟩:=hb1.out.fiveP;clear q;cases N4 with
         |false=>
          have HC:Hid (R=false):=HE.out;go_wp2_with fail;exact bodyPost_ret (v:= .bool false) (by simp[results,Tryz.results13,go_sem]) rfl ⟨by rw[HC.out],hq1.out⟩
         |true=>
          have HE0:Hid (R=(endsL (p.lo.drop 0) (p.hi.drop 0)&&rightA p.lo.length p.a)):=HE.out;clear HE C1 C2 C3 C4;go_wp2_with fail;go_loopg [64] p.lo.length (fun k pp wr=>∃j,k=p.lo.length-j∧j≤p.lo.length∧pp= .int .i64 (j:Nat)∧Hid (R=(endsL (p.lo.drop j) (p.hi.drop j)&&rightA p.lo.length p.a))∧Hid (Below w.heap.size w wr)∧Blk wr w.heap.size tyP (pgC m p))
          case atStart=>exact⟨0,rfl,Nat.zero_le _,rfl,HE0.out,hq1.out,hb1.out⟩
          case round=>
           clear HE0 hq1 hb1 p0 p1 p2 p3 p4;obtain⟨j,hk,hj,rfl,HL,hq1,hpb⟩:=hrel;have HPB:=ZH hpb;obtain⟨p0,p1,p2,p3,p4⟩:=hpb.fiveP;by_cases hlt:j<p.lo.length
           ·have d1:decide ((j:Int)<(p.lo.length:Int))=true:=dT (by omega);have hlt2:j<p.hi.length:=by omega
            obtain⟨gl,ol,hA0,c0⟩:=(HP.out.lo.below hq1.out) j hlt;obtain⟨gh,oh,hA1,c1⟩:=(HP.out.hi.below hq1.out) j hlt2;replace c0:wr.cell? ⟨gl,ol+j,none⟩=some (.int .i64 (p.lo.getD j 0)):=c0;replace c1:wr.cell? ⟨gh,oh+j,none⟩=some (.int .i64 (p.hi.getD j 0)):=c1;rw[hA0]at p0;rw[hA1]at p1;have P0:=Lk.of p0;have P1:=Lk.of p1;have C0:=Lk.of c0;have C1:=Lk.of c1;have HC:Hid (R=((decide (p.lo.getD j 0≤p.hi.getD j 0)&&endsL (p.lo.drop (j+1)) (p.hi.drop (j+1)))&&rightA p.lo.length p.a)):=by
             show _=_;rw[HL.out,drop_at (z:=0) hlt,drop_at (z:=0) hlt2,endsL_step]
            clear hA0 hA1 p0 p1 p2 p3 p4 c0 c1 hpb HL;generalize p.lo.getD j 0=zl at*;generalize p.hi.getD j 0=zh at*;have M:=Mem.start wr;go_upto_region 9 with fail;refine region_st (n:=11) (frame:= ?frame1) (fun jK=>[kP w.heap.size 0,kF (.slice (some ⟨gl,ol,none⟩) p.lo.length m.lo.2),kI ((j:Nat)),kP gl (ol+j),kI zl,kP w.heap.size 1,kF (.slice (some ⟨gh,oh,none⟩) p.hi.length m.hi.2),kI ((j:Nat)),kP gh (oh+j),kI zh,kB ((decide (zh<zl)))].getD jK .none) [] (by kernel_rfl) (by kernel_rfl) (by kernel_rfl) rfl M (fun _ h=>by cases h) (fun _ h=>by cases h) ?_ ?_ ?_
            case refine_1=>
             intro s;simp only[fr,Act.put,zA,zB,zC,zD,zE,zF,Nat.reduceAdd];rfl
            case refine_2=>
             iterate 11 (refine SN ?_ ?_;rotate_left)
             exact Steps.nil;all_goals (intro L s w9 hN hU hi hS K hK;dsimp only at hK⊢;simp only[Act.put,zD,zE,zF]at hK)
             ·go_simp;exact hS.o hK
             ·simp only[hS.f hN 0]at hK⊢;have u0:=P0 _ hS.mem.bel;go_simp;exact hS.o hK
             ·go_simp;exact hS.o hK
             ·simp only[hS.f hN 1,hS.f hN 2]at hK⊢;go_simp;exact hS.o hK
             ·simp only[hS.f hN 3]at hK⊢;have u0:=C0 _ hS.mem.bel;go_simp;exact hS.o hK
             ·go_simp;exact hS.o hK
             ·simp only[hS.f hN 5]at hK⊢;have u0:=P1 _ hS.mem.bel;go_simp;exact hS.o hK
             ·go_simp;exact hS.o hK
             ·simp only[hS.f hN 6,hS.f hN 7]at hK⊢;go_simp;exact hS.o hK
             ·simp only[hS.f hN 8]at hK⊢;have u0:=C1 _ hS.mem.bel;go_simp;exact hS.o hK
             ·simp only[hS.f hN 4,hS.f hN 9]at hK⊢;go_simp;exact hS.o hK
            intro L s w9 hall hS;have e10:=hS.fx 10 rfl rfl (hall 10 (by decide));have q3:=hS.mem.bel;simp only[e10];have HQ3:=ZH (bT hq1.out q3);have HB3:=ZH (HPB.out.below q3 ZL);clear hS hall e10 q3 P0 P1 C0 C1;by_cases hzz:zh<zl
            ·have HC2:Hid (R=false):=HC.out.trans (by rw[dF (show ¬zl≤zh by omega)];rfl);rw[dT hzz];clear HC;go_wp2_with fail;exact bodyPost_ret (v:= .bool false) (by simp[results,Tryz.results13,go_sem]) rfl ⟨by rw[HC2.out],HQ3.out⟩
            ·have HC2:Hid (R=(endsL (p.lo.drop (j+1)) (p.hi.drop (j+1))&&rightA p.lo.length p.a)):=HC.out.trans (by rw[dT (show zl≤zh by omega),Bool.true_and]);rw[dF hzz];clear HC;go_wp2_with fail;go_roundg (p.lo.length-(j+1))
             case measure=>omega
             case rel=>exact⟨j+1,rfl,by omega,by simp,HC2.out,HQ3.out,HB3.out⟩
           ·have d1:decide ((j:Int)<(p.lo.length:Int))=false:=dF (by omega);have HE1:Hid (R=rightA p.lo.length (p.a.drop 0)):=by
             show _=_;rw[HL.out,drop_none hlt];rfl
            clear HL;obtain⟨AA,hAA⟩:∃AA,m.a.1=AA:=⟨_,rfl⟩;rw[hAA]at p2;have HAA:=ZH hAA;clear hAA;obtain⟨W0,rfl⟩:∃W0,W0=wr:=⟨_,rfl⟩;go_wp2_with fail;go_loopg [82] p.a.length (fun k pp wr=>∃i,k=p.a.length-i∧i≤p.a.length∧pp= .int .i64 (i:Nat)∧Hid (R=rightA p.lo.length (p.a.drop i))∧Hid (Below w.heap.size w wr))
            case atStart=>exact⟨0,rfl,Nat.zero_le _,rfl,HE1.out,hq1.out⟩
            case round=>
             clear HE1 p0 p1 p2 p3 p4 d1 hlt hpb;obtain⟨i,hk2,hi,rfl,HL,hq2⟩:=hrel;by_cases hlt:i<p.a.length
             ·have d1:decide ((i:Int)<(p.a.length:Int))=true:=dT (by omega);obtain⟨ga,oa,hA2,ci⟩:=(HP.out.ap.below hq2.out) i hlt;replace ci:wr.cell? ⟨ga,oa+i,none⟩=some (.slice (m.rs.getD i (none,0)).1 (p.a.getD i []).length (m.rs.getD i (none,0)).2):=ci;rw[HAA.out]at hA2;subst hA2;have har:=(HP.out.below hq2.out).ar i hlt;have hzr:=HZ.out.r i hlt;have HC:Hid (R=((decide ((p.a.getD i []).length=p.lo.length)&&nearL 1048576 (p.a.getD i []))&&rightA p.lo.length (p.a.drop (i+1)))):=by
               show _=_;rw[HL.out,drop_at (z:=[]) hlt,rightA_step]
              have HN:=ZH (nearS_any (c:=(m.rs.getD i (none,0)).2) har hzr);clear HL har;generalize p.a.getD i []=row at*;generalize (m.rs.getD i (none,0)).1=RA at*;generalize (m.rs.getD i (none,0)).2=cR at*;by_cases hrl:row.length=p.lo.length
              ·have d2:((row.length:Int) !=(p.lo.length:Int))=false:=by rw[hrl];simp
               have HC:=ZH (HC.out.trans (by rw[dT hrl,Bool.true_and]));clear hrl;generalize nearL 1048576 row=NR at*;go_wp2_with fail;refine HN.out.mono ?_;rintro e w3 ⟨rfl,q3⟩;have HQ3:=ZH (bT hq2.out q3);clear q3;cases NR with
               |false=>
                have HC2:Hid (R=false):=HC.out;clear HC;go_wp2_with fail;exact bodyPost_ret (v:= .bool false) (by simp[results,Tryz.results13,go_sem]) rfl ⟨by rw[HC2.out],HQ3.out⟩
               |true=>
                have HC2:Hid (R=rightA p.lo.length (p.a.drop (i+1))):=HC.out;clear HC;go_wp2_with fail;go_roundg (p.a.length-(i+1))
                case measure=>omega
                case rel=>exact⟨i+1,rfl,by omega,by simp,HC2.out,HQ3.out⟩
              ·have d2:((row.length:Int) !=(p.lo.length:Int))=true:=ne_boolK (by omega);have HC2:Hid (R=false):=HC.out.trans (by rw[dF hrl];rfl);clear HC HN;go_wp2_with fail;exact bodyPost_ret (v:= .bool false) (by simp[results,Tryz.results13,go_sem]) rfl ⟨by rw[HC2.out],hq2.out⟩
             ·have d1:decide ((i:Int)<(p.a.length:Int))=false:=dF (by omega);have HC2:Hid (R=true):=by
               show _=_;rw[HL.out,drop_none hlt];rfl
              clear HL;go_wp2_with fail;exact bodyPost_ret (v:= .bool true) (by simp[results,Tryz.results13,go_sem]) rfl ⟨by rw[HC2.out],hq2.out⟩
     ·have d5:decide ((160:Int)<(p.a.length:Int))=true:=dT (by omega);have HC:Hid (R=false):=HE.out.trans (by rw[dF g5];rfl);go_wp2_with fail;exact bodyPost_ret (v:= .bool false) (by simp[results,Tryz.results13,go_sem]) rfl ⟨by rw[HC.out],HQ0.out⟩
    ·have d4:((p.a.length:Int) !=(p.b.length:Int))=true:=ne_boolK (by omega);have HC:Hid (R=false):=HE.out.trans (by rw[dF g4];rfl);go_wp2_with fail;exact bodyPost_ret (v:= .bool false) (by simp[results,Tryz.results13,go_sem]) rfl ⟨by rw[HC.out],HQ0.out⟩
   ·have d3:((p.c.length:Int) !=(p.lo.length:Int))=true:=ne_boolK (by omega);have HC:Hid (R=false):=HE.out.trans (by rw[dF g3];rfl);go_wp2_with fail;exact bodyPost_ret (v:= .bool false) (by simp[results,Tryz.results13,go_sem]) rfl ⟨by rw[HC.out],HQ0.out⟩
  ·have d2:((p.hi.length:Int) !=(p.lo.length:Int))=true:=ne_boolK (by omega);have HC:Hid (R=false):=HE.out.trans (by rw[dF g2];rfl);go_wp2_with fail;exact bodyPost_ret (v:= .bool false) (by simp[results,Tryz.results13,go_sem]) rfl ⟨by rw[HC.out],HQ0.out⟩
 ·have d1:decide ((64:Int)<(p.lo.length:Int))=true:=dT (by omega);have HC:Hid (R=false):=HE.out.trans (by rw[dF g1];rfl);go_wp2_with fail;exact bodyPost_ret (v:= .bool false) (by simp[results,Tryz.results13,go_sem]) rfl ⟨by rw[HC.out],HQ0.out⟩
abbrev tyB:TypeId:=4
theorem gcatch_on {O:Nat}{w:World}{t:TypeId}{v:Value}{b:Bool}(hO:Blk w O tyB #[.bool b]):CallsD Tryz.prog 115 #[.pointer (some ⟨O,0,none⟩)] (.panicking [{v:= .iface t v,recovered:=false}]) w fun e u w'=>e= .returned (.tuple #[])∧u= .panicking [{v:= .iface t v,recovered:=true}]∧Blk w' O tyB #[.bool false]∧Stp (fun k=>k=O) w w':=by
 have o0:w.cell? ⟨O,0,none⟩=some (.bool b):=hO.cell 0;have of:=hO.frozen 0;have hO1:Blk (w.setCell ⟨O,0,none⟩ (.bool false)) O tyB #[.bool false]:=hO.set_ 0 (.bool false);have HS:=ZH (Stp.grew (hO.box rfl) (gSC w O 0 (.bool false)));refine callsD_of_wpS Tryz.func115 rfl fun c₀ cs hu=> ?_;apply wpS_seq;apply wpS_region;simp[wpOpsS,go_sem,recoverD,hu,Tryz.ntmps115,Exit.thenS];refine wpS_of_wp ?_;simp only[List.replicate,Array.replicate,zD,zE,zF,List.append_toArray,zB,zC];go_wp2_with fail;simp[bodyPostS,results,Tryz.results115,hO1,HS.out]
theorem gcatch_idle (p:Addr)(w:World):CallsD Tryz.prog 115 #[.pointer (some p)] .returning w fun e u w'=>e= .returned (.tuple #[])∧u= .returning∧w'=w:=by
 refine callsD_of_wpS Tryz.func115 rfl fun c₀ cs hu=> ?_;apply wpS_seq;apply wpS_region;simp[wpOpsS,go_sem,recoverD,hu,Tryz.ntmps115,Exit.thenS];refine wpS_of_wp ?_;simp only[List.replicate,Array.replicate,zD,zE,zF,List.append_toArray,zB,zC];go_wp2_with fail;cases c₀;simp_all[bodyPostS,results,Tryz.results115]
theorem guarded_any {w:World}{f:Nat}{caps:Array Value}{S:Nat→Prop}{Q:World→Prop}{N:Prop}(he:∀(args:Array Value)(w:World),Sem.run Tryz.prog (callFunc f args) w= .ok (.enter f args) w)(H:Calls Tryz.prog f caps (w.alloc (.cells #[.bool false] tyB)) fun e w2=>Stp S (w.alloc (.cells #[.bool false] tyB)) w2∧((e= .returned (.tuple #[])∧Q w2)∨(ThrewX e∧N)))(hS:∀k,S k→k<w.heap.size)(hQ:∀w2 w3,Q w2→Blk w2 w.heap.size tyB #[.bool false]→Stp (fun k=>k=w.heap.size) w2 w3→Q w3):Calls Tryz.prog 69 #[.func (.func f) #[] caps] w fun e w'=>Stp S w w'∧((e= .returned (.bool true)∧Q w')∨(e= .returned (.bool false)∧N)):=by
 have HH:=ZH H;have HQ:=ZH hQ;have HS:=ZH hS;have hmf:∀(fn:Fn)(first cap:Array Value)(w:World),(Instr.makeFunc fn first cap).run Tryz.prog w= .ok (.func fn first cap) w:=fun _ _ _ _=>rfl;have hb0:=Blk.new w tyB #[.bool false];have HB0:=ZH hb0;clear H hQ hS hb0;go_enter_defers Tryz.func69,Tryz.ntmps69;go_wp2_with fail;refine HH.out.mono ?_;rintro e w2 ⟨hs2,⟨rfl,hq⟩|⟨⟨v,rfl⟩,hn⟩⟩
 ·have hb2:Blk w2 w.heap.size tyB #[.bool false]:=HB0.out.stp hs2 (fun h=>by have:=HS.out _ h;omega);have k0:w2.cell? ⟨w.heap.size,0,none⟩=some (.bool false):=hb2.cell 0;have k1:=hb2.frozen 0;have hst:=ZH (Stp.grew (hb2.box rfl) (gSC w2 w.heap.size 0 (.bool true)));have r0:(w2.setCell ⟨w.heap.size,0,none⟩ (.bool true)).cell? ⟨w.heap.size,0,none⟩=some (.bool true):=(hb2.set_ 0 (.bool true)).cell 0;have HR0:=ZH r0;have HQ2:=ZH (HQ.out _ _ hq hb2 hst.out);have HS2:=ZH hs2;clear r0 hq hs2;go_wp2_with fail;refine leaves_cons (f:=115) (args:= #[.pointer (some ⟨w.heap.size,0,none⟩)]) (by simp) (by simp[go_sem]) ?_;refine(gcatch_idle _ _).mono ?_;rintro e u w4 ⟨rfl,rfl,rfl⟩;simp[Leaves,settle,results,Tryz.results69,go_sem,HR0.out];exact⟨((Stp.of (bA1 _ _)).trans HS2.out).then hst.out (fun k hk=> .inl (by omega)),HQ2.out⟩
 ·have hb2:Blk w2 w.heap.size tyB #[.bool false]:=HB0.out.stp hs2 (fun h=>by have:=HS.out _ h;omega);go_wp2_with fail;refine leaves_cons (f:=115) (args:= #[.pointer (some ⟨w.heap.size,0,none⟩)]) (by simp) (by simp[go_sem]) ?_;refine(gcatch_on hb2).mono ?_;rintro e u w4 ⟨rfl,rfl,b1,s4⟩;have r0:w4.cell? ⟨w.heap.size,0,none⟩=some (.bool false):=b1.cell 0;simp[Leaves,settle,results,Tryz.results69,go_sem,r0];exact⟨((Stp.of (bA1 _ _)).trans hs2).then s4 (fun k hk=> .inl (by omega)),hn⟩
theorem near_at {most:Int}{l:List Int}(h:nearL most l=true){j:Nat}(hj:j<l.length): -most≤l.getD j 0∧l.getD j 0≤most:=by
 have h1:=List.all_eq_true.1 h (l.getD j 0) (by rw[gE,gG hj];exact List.getElem_mem hj);rw[Bool.and_eq_true,decide_eq_true_eq,decide_eq_true_eq]at h1;exact h1
theorem ok_of_right {p:Pg}(h:rightPg p=true):PgOk p:=by
 rw[rightPg_eq]at h;simp only[Bool.and_eq_true,decide_eq_true_eq]at h;obtain⟨h1,h2,h3,h4,h5,h6,h7,h8,h9,h10,h11⟩:=h;have hr:∀i,i<p.a.length→(p.a.getD i []).length=p.lo.length∧nearL 1048576 (p.a.getD i [])=true:=fun i hi=>by
  have h12:=List.all_eq_true.1 h11 (p.a.getD i []) (by rw[gE,gG hi];exact List.getElem_mem hi);rw[Bool.and_eq_true,decide_eq_true_eq]at h12;exact h12
 refine⟨h2,h3,h4.symm,h1,h5,fun i hi=>(hr i hi).1,fun j hj=> ?_,fun j hj=> ?_,fun j hj=> ?_,fun i hi=> ?_,fun i hi j hj=> ?_⟩
 ·have:=near_at h6 hj;exact⟨by omega,by omega⟩
 ·have:=near_at h7 (j:=j) (by omega);exact⟨by omega,by omega⟩
 ·have:=near_at h8 (j:=j) (by omega);exact⟨by omega,by omega⟩
 ·have:=near_at h9 (j:=i) (by omega);exact⟨by omega,by omega⟩
 ·have:=near_at (hr i hi).2 (j:=j) (by rw[(hr i hi).1];exact hj);exact⟨by omega,by omega⟩
def NoSl (cs:Array Value):Prop:=∀(i:Nat)(B:Option Addr)(n d:Nat),cs[i]? =some (Value.slice B n d)→n=0
theorem QRow.stpA {w w':World}{A:Option Addr}{l:List Rat}{g:Nat}{t:TypeId}{cs:Array Value}(h:QRow w A l)(k:Stp (fun i=>i=g) w w')(hb:Blk w g t cs)(hn:NoSl cs):QRow w' A l:=fun j hj=>by
 obtain⟨g',o,hA,hq⟩:=h j hj;refine⟨g',o,hA,hq.stp k fun e=> ?_⟩;subst e;obtain⟨A',c,B,d,_,_,_,h4,hr⟩:=hq;have h5:=(hb.cell (o+j*4+3)).symm.trans h4;have:=hn _ _ _ _ h5;exact den_ne _ (List.length_eq_zero_iff.1 this)
theorem AnV.stpA {w w':World}{v:Value}{a:An}{g:Nat}{t:TypeId}{cs:Array Value}(h:AnV w v a)(k:Stp (fun i=>i=g) w w')(hb:Blk w g t cs)(hn:NoSl cs):AnV w' v a:=by
 obtain⟨AX,cX,AY,cY,h1,h2,h3⟩:=h;refine⟨AX,cX,AY,cY,h1.stpA k hb hn,h2.stpA k hb hn,?_⟩;cases hv:a.value with
 |none=>
  rw[hv]at h3;exact h3
 |some q=>
  rw[hv]at h3;obtain⟨A,c,B,d,h4,h5⟩:=h3;exact⟨A,c,B,d,h4,h5.stp k⟩
theorem AnV.cells {w:World}{v:Value}{a:An}(h:AnV w v a):∃cs:Array Value,v= .agg cs∧cs.size=7∧cs.toList.all (·.oneCell')=true∧cs.toList.all nu=true:=by
 obtain⟨AX,cX,AY,cY,_,_,h3⟩:=h;cases hv:a.value with
 |none=>
  rw[hv]at h3;exact⟨_,h3,rfl,rfl,rfl⟩
 |some q=>
  rw[hv]at h3;obtain⟨A,c,B,d,h4,_⟩:=h3;exact⟨_,h4,rfl,rfl,rfl⟩
theorem PgAt.stpB {S:Nat→Prop}{w w1 w':World}{m:Pa}{p:Pg}(h:PgAt w m p)(q:Below w.heap.size w w1)(k:Stp S w1 w')(hs:∀g,S g→w.heap.size≤g):PgAt w' m p:=h.below (k.below q q.size hs)
theorem an0_no:NoSl an0:=fun i B n d h=>by
 match i,h with
 |0,h=>cases h
 |1,h=>injection h with h;injection h with _ h2;exact h2.symm
 |2,h=>cases h
 |3,h=>injection h with h;injection h with _ h2;exact h2.symm
 |4,h=>cases h
 |5,h=>injection h with h;injection h with _ h2;exact h2.symm
 |6,h=>injection h with h;injection h with _ h2;exact h2.symm
 |i+7,h=>simp at h
theorem bool_no (b:Bool):NoSl #[.bool b]:=fun i B n d h=>by
 match i,h with
 |0,h=>cases h
 |i+1,h=>simp at h
abbrev tyA:TypeId:=98
theorem slv1_run (args:Array Value)(w:World):Sem.run Tryz.prog (callFunc 83 args) w= .ok (.enter 83 args) w:=by kernel_rfl
theorem solve1_any {w:World}{m:Pa}{p:Pg}{P gp gv gA:Nat}{R:Option An}(hR:(beginT p P).bind (answerT p)=R)(hb:Blk w gp tyP (pgC m p))(hv:w.cell? ⟨gv,0,none⟩=some (.int .i64 (P:Nat)))(hA:Blk w gA tyA an0)(hok:PgOk p)(hp:PgAt w m p):Calls Tryz.prog 83 #[vptr gp,vptr gv,vptr gA] w fun e w2=>Stp (fun k=>k=gA) w w2∧((e= .returned (.tuple #[])∧∃a v cs,R=some a∧v= .agg cs∧Blk w2 gA tyA cs∧AnV w2 v a)∨(ThrewX e∧R=none)):=by
 have HR:Hid (R=(beginT p P).bind (answerT p)):=hR.symm;clear hR;have HB:=ZH hb;have HV:=Lk.of hv;have HA:=ZH hA;have HOK:=ZH hok;have HP:=ZH hp;have hgA:=hA.lt;clear hb hv hA hok hp;go_enter Tryz.func83,Tryz.ntmps83;refine region_gen0 (n:=6) (frame:= ?frame1) (fun L s w'=>Vs [oF (.agg (pgC m p)),oI ((P:Nat)),none,oF (.agg (pgC m p)),none,none] L s∧(L 2=false→(Below w.heap.size w w'))∧(L 2=true→L 4=false→(Below w.heap.size w w'∧∃d b,s 2=vptr d.t0∧beginT p P=some b∧TAt tyT w' d b∧(∀g,d.S g→w.heap.size≤g)∧Wf b∧HasHi b∧b.n=p.lo.length∧b.vars.length≤d.V.2))∧(L 4=true→L 5=false→(∃a,R=some a∧AnV w' (s 4) a∧Below w.heap.size w w'))∧(L 5=true→(∃a v cs,R=some a∧v= .agg cs∧Blk w' gA tyA cs∧AnV w' v a∧Stp (fun k=>k=gA) w w'))) (by kernel_rfl) (by kernel_rfl) (by kernel_rfl) rfl ?_ ?_ ?_ ?_
 case refine_1=>exact⟨fun _ _ _ h=>no_f h,fun _=>(Read.refl _).drew.below _,fun h=>no_f h,fun h=>no_f h,fun h=>no_f h⟩
 case refine_2=>
  intro s;simp only[fr,Act.put,zA,zB,zC,zD,zE,zF,Nat.reduceAdd];rfl
 case refine_3=>
  iterate 6 (refine SN ?_ ?_;rotate_left)
  exact Steps.nil;all_goals (intro L s w9 hN hU hi hC hS K hK;dsimp only at hK⊢;simp only[Act.put,zD,zE,zF]at hK;obtain⟨hV,c_0,c_1,c_2,c_3⟩:=hS;refine ite_of rfl ?_)
  ·have hE:Below w.heap.size w w9:=(c_0 (hU.out 2 _ rfl rfl));obtain⟨u0,u1,u2,u3,u4⟩:=(HB.out.below hE ZL).fiveP;go_simp;exact hK.out _ _ ⟨hV.put 0,c_0,c_1,c_2,c_3⟩
  ·have hE:Below w.heap.size w w9:=(c_0 (hU.out 2 _ rfl rfl));have u0:=HV _ hE;go_simp;exact hK.out _ _ ⟨hV.put 1,c_0,c_1,c_2,c_3⟩
  ·rw[hV.at 0 (hN.out 0 rfl)]at hK⊢;rw[hV.at 1 (hN.out 1 rfl)]at hK⊢;have hP:=c_0 hi.out;go_simp;go_at_call 84;refine(begin_any HOK.out (HP.out.below hP)).mono ?_;rintro e9 w10 ⟨q,⟨d,b,h1,rfl,h2,h3,h4,h5,h6,h7⟩|⟨hn,v9,rfl⟩⟩
   ·exact hK.out _ _ ⟨hV.eff 2,fun h=>no_t h,fun _ _=>⟨bT hP q,d,b,rfl,h1,h2,fun g hg=>Nat.le_trans hP.size (h3 g hg),h4,h5,h6,h7⟩,fun h=>no_f (Eq.trans (Eq.symm (hU.out 4 _ rfl rfl)) h),fun h=>no_f (Eq.trans (Eq.symm (Shut.no hC 5 4 rfl rfl (hU.out 4 _ rfl rfl))) h)⟩
   ·exact⟨rfl,Stp.of (bT hP q),.inr ⟨⟨v9,rfl⟩,HR.out.trans (bind_n hn)⟩⟩
  ·have hE:Below w.heap.size w w9:=(match hL0:L 2 with|false=>(c_0 hL0)|true=>(c_1 hL0 (hU.out 4 _ rfl rfl)).1);obtain⟨u0,u1,u2,u3,u4⟩:=(HB.out.below hE ZL).fiveP;go_simp;exact hK.out _ _ ⟨hV.put 3,c_0,c_1,c_2,c_3⟩
  ·rw[hV.at 3 (hN.out 3 rfl)]at hK⊢;have hP:=c_1 (hN.out 2 rfl) hi.out;obtain⟨hP0,d,b,e2,h1,h2,h3,h4,h5,h6,h7⟩:=hP;simp only[e2]at hK⊢;go_simp;go_at_call 85;refine(answer_any (m:=m) (p:=p) h2 h4 h5 (by rw[HOK.out.c];exact h6.symm) h7 (fun j hj=>HOK.out.ic j (by rw[←HOK.out.c];exact hj)) (fun w' hs=>HP.out.stpB hP0 hs h3)).mono ?_;rintro e9 w10 ⟨hs,⟨a,v,ha,rfl,hav⟩|⟨ha,v9,rfl⟩⟩
   ·exact hK.out _ _ ⟨hV.eff 4,fun h=>no_f (Eq.trans (Eq.symm h) (hN.out 2 rfl)),fun _ h=>no_t h,fun _ _=>⟨a,HR.out.trans (bind_s h1 ha),hav,hs.below hP0 hP0.size h3⟩,fun h=>no_f (Eq.trans (Eq.symm (hU.out 5 _ rfl rfl)) h)⟩
   ·exact⟨rfl,Stp.of (hs.below hP0 hP0.size h3),.inr ⟨⟨v9,rfl⟩,HR.out.trans (bind_sn h1 ha)⟩⟩
  ·have hP:=c_2 (hN.out 4 rfl) hi.out;obtain⟨a,ha,hav,hP0⟩:=hP;obtain⟨cs,e4,hs7,h1c,hnu⟩:=hav.cells;rw[e4]at hav;simp only[e4]at hK⊢;have b9:=HA.out.below hP0 ZL;have hst:=Stp.grew (b9.box rfl) (sRG w9 gA cs);refine wp_store_row _ _ _ rfl gA cs rfl rfl _ _ b9 (by rw[hs7];exact info_ans) (by rw[hs7];rfl) (by rw[←Array.all_toList];exact h1c) ?_;exact hK.out undef _ ⟨hV.eff 5,fun h=>no_f (Eq.trans (Eq.symm h) (hC.out 4 _ rfl (hN.out 4 rfl) 2 rfl)),fun _ h=>no_f (Eq.trans (Eq.symm h) (hN.out 4 rfl)),fun _ h=>no_t h,fun _=>⟨a,_,cs,ha,rfl,b9.row _,hav.stpA hst b9 an0_no,(Stp.of hP0).trans hst⟩⟩
 intro L s w9 hall hS;obtain⟨hV,c_0,c_1,c_2,c_3⟩:=hS;have hPm:=c_3 (hall 5 (by decide));clear hall hV c_0 c_1 c_2 c_3;obtain⟨a,v,cs,ha,hv,hb,hav,hst⟩:=hPm;have HH:=ZH (show ∃a v cs,R=some a∧v= .agg cs∧Blk w9 gA tyA cs∧AnV w9 v a from⟨a,v,cs,ha,hv,hb,hav⟩);have HST:=ZH hst;clear ha hv hb hav hst;go_wp2_with fail;exact⟨rfl,_,by simp[results,Tryz.results83,go_sem],HST.out,.inl ⟨rfl,HH.out⟩⟩
theorem AnV.form {w:World}{cs:Array Value}{a:An}(h:AnV w (.agg cs) a):∃(k:Int)(AX:Option Addr)(lX cX:Nat)(s:Bool)(A:Option Addr)(lA cA:Nat)(B:Option Addr)(lB cB:Nat)(AY:Option Addr)(lY cY:Nat),cs= #[.int .i64 k,.slice AX lX cX,.bool s,.slice A lA cA,.bool false,.slice B lB cB,.slice AY lY cY]:=by
 obtain⟨AX,cX,AY,cY,_,_,h3⟩:=h;cases hv:a.value with
 |none=>
  rw[hv]at h3;injection h3 with h3;exact⟨_,_,_,_,_,_,_,_,_,_,_,_,_,_,h3⟩
 |some q=>
  rw[hv]at h3;obtain⟨A,c,B,d,h4,_⟩:=h3;injection h4 with h4;exact⟨_,_,_,_,_,_,_,_,_,_,_,_,_,_,h4⟩
theorem solve_good {w:World}{m:Pa}{p:Pg}{n:Nat}(hp:PgAt w m p)(hz:PgSz p)(hb:rightPg p=true):Calls Tryz.prog 47 #[.agg (pgC m p),.int .i64 (n:Nat)] w fun e w'=>∃v,e= .returned (.tuple #[v,.int .i64 0])∧AnV w' v (solveT p n)∧Below w.heap.size w w':=by
 have HP:=ZH hp;have HZ:=ZH hz;have HOK:=ZH (ok_of_right hb);have hmf:∀(fn:Fn)(first cap:Array Value)(w:World),(Instr.makeFunc fn first cap).run Tryz.prog w= .ok (.func fn first cap) w:=fun _ _ _ _=>rfl;have M:=(((Mem.start w).new tyP (pgC m p)).newAt (g:=w.heap.size+1) (by simp) tyI #[.int .i64 (n:Nat)]).newAt (g:=w.heap.size+2) (by simp) tyA an0;have HR0:=ZH (pright_any (HP.out.below M.bel) HZ.out);obtain⟨p0,p1,p2,p3,p4⟩:=(M.k (i:=2) rfl).fiveP;rw[hb]at HR0;clear hp hz hb;obtain⟨R,hR⟩:∃R,(beginT p n).bind (answerT p)=R:=⟨_,rfl⟩;have HS:Hid (solveT p n=R.getD ⟨3,[],none,[]⟩):=by
  show solveT p n=_;rw[←hR];rfl
 generalize solveT p n=A at*;have HR:=ZH hR;clear hR;go_enter Tryz.func47,Tryz.ntmps47;go_wp2_with fail;refine HR0.out.mono ?_;rintro e w1 ⟨rfl,q1⟩;have M1:=M.below q1;have k1:_=some (Value.int .i64 (n:Nat)):=(M1.k (i:=1) rfl).cell 0;clear M q1 HR0 p0 p1 p2 p3 p4;have M2:=M1.new tyA an0;have l1:=(M1.k (i:=0) rfl).lt;go_wp2_with fail;refine(guarded_any (Q:=fun w'=>∃a v cs,R=some a∧v= .agg cs∧Blk w' w1.heap.size tyA cs∧AnV w' v a) (N:=R=none) (S:=fun k=>k=w1.heap.size) slv1_run ((solve1_any HR.out ((M2.k (i:=3) rfl).below (bA1 _ _) ZL) (((M2.k (i:=2) rfl).below (bA1 _ _) ZL).cell 0) ((M2.k (i:=0) rfl).below (bA1 _ _) ZL) HOK.out ((HP.out.below M2.bel).below (bA1 _ _))).mono ?_) ?_ ?_).mono ?_
 ·rintro e w3 ⟨hs,⟨rfl,h⟩|h⟩
  ·exact⟨hs,.inl ⟨rfl,h⟩⟩
  ·exact⟨hs,.inr h⟩
 ·intro k hk;subst hk;exact(M2.k (i:=0) rfl).lt
 ·rintro w3 w4 ⟨a,v,cs,hr,hv,hb,hav⟩ hbb k;exact⟨a,v,cs,hr,hv,hb.stp k (fun h=>by have:=(M2.k (i:=0) rfl).lt;omega),hav.stpA k hbb (bool_no false)⟩
 rintro e w3 ⟨hs3,⟨rfl,a,v,cs,hr,rfl,hb,hav⟩|⟨rfl,hn⟩⟩
 ·have hb2:Blk w3 (w.heap.size+2) tyA an0:=(M2.k (i:=1) rfl).stp hs3 (fun h=>by omega);have HA:Hid (A=a):=by
   show A=a;rw[HS.out,hr];rfl
  obtain⟨k,AX,lX,cX,s1,A1,lA,cA,B1,lB,cB,AY,lY,cY,rfl⟩:=hav.form;obtain⟨x0,x1,x2,x3,x4,x5,x6⟩:=hb.seven;have HAV:=ZH hav;have HB2:=ZH hb2;have HQ:=ZH (hs3.below M2.bel M2.bel.size (fun g e=>by omega));clear hr hb hav hb2 hs3 HS HR;go_wp2_with ((with_reducible refine st_ ?_);refine wP2 _ _ HB2.out rfl rfl rfl rfl info_ans rfl rfl ?_;intro w5 b5 g5';obtain⟨f0,f1,f2,f3,f4,f5,f6⟩:=Blk.seven b5);have hst:=Stp.grew (HB2.out.box rfl) g5';refine bodyPost_ret (v:= .tuple #[.agg #[.int .i64 k,.slice AX lX cX,.bool s1,.slice A1 lA cA,.bool false,.slice B1 lB cB,.slice AY lY cY],.int .i64 0]) (by simp[results,Tryz.results47,go_sem,f0,f1,f2,f3,f4,f5,f6]) rfl ⟨_,rfl,?_,?_⟩
  ·rw[HA.out];exact HAV.out.stpA hst HB2.out an0_no
  ·exact hst.below HQ.out HQ.out.size (fun g e=>by omega)
 ·have hb2:Blk w3 (w.heap.size+2) tyA an0:=(M2.k (i:=1) rfl).stp hs3 (fun h=>by omega);have HA:Hid (A=⟨3,[],none,[]⟩):=by
   show A=_;rw[HS.out,hn];rfl
  have HB2:=ZH hb2;have HQ:=ZH (hs3.below M2.bel M2.bel.size (fun g e=>by omega));clear hn hb2 hs3 HS HR;go_wp2_with ((with_reducible refine st_ ?_);refine wP2 _ _ HB2.out rfl rfl rfl rfl info_ans rfl rfl ?_;intro w5 b5 g5';obtain⟨f0,f1,f2,f3,f4,f5,f6⟩:=Blk.seven b5);have hst:=Stp.grew (HB2.out.box rfl) g5';refine bodyPost_ret (v:= .tuple #[.agg #[.int .i64 3,.slice none 0 0,.bool false,.slice none 0 0,.bool false,.slice none 0 0,.slice none 0 0],.int .i64 0]) (by simp[results,Tryz.results47,go_sem,f0,f1,f2,f3,f4,f5,f6]) rfl ⟨_,rfl,?_,?_⟩
  ·rw[HA.out];exact⟨none,0,none,0,QRow.none _ _,QRow.none _ _,rfl⟩
  ·exact hst.below HQ.out HQ.out.size (fun g e=>by omega)
structure Fr where
 n:Bool
 xs:List Nat
 m:Bool
 ys:List Nat
def fr0:Fr:=⟨false,[],false,[]⟩
def frq (q:Rat):Fr:=⟨sN q.num,sD q.num,false,dig q.den⟩
def frB (f:Fr):Bool:=qright f.n f.xs f.m f.ys&& !f.n
def GAt (w:World)(g o:Nat)(f:Fr):Prop:=∃A c B d,w.cell? ⟨g,o,none⟩=some (.bool f.n)∧w.cell? ⟨g,o+1,none⟩=some (.slice A f.xs.length c)∧w.cell? ⟨g,o+2,none⟩=some (.bool f.m)∧
 w.cell? ⟨g,o+3,none⟩=some (.slice B f.ys.length d)∧Rd w A c f.xs∧Rd w B d f.ys
def GRow (w:World)(A:Option Addr)(l:List Fr):Prop:=∀j,j<l.length→∃g o,A=some ⟨g,o,none⟩∧GAt w g (o+j*4) (l.getD j fr0)
theorem GRow.below {w w':World}{A:Option Addr}{l:List Fr}(h:GRow w A l)(q:Below w.heap.size w w'):GRow w' A l:=fun j hj=>by
 obtain⟨g,o,hA,A',c,B,d,h1,h2,h3,h4,h5,h6⟩:=h j hj;exact⟨g,o,hA,A',c,B,d,Lk.of h1 _ q,Lk.of h2 _ q,Lk.of h3 _ q,Lk.of h4 _ q,h5.below q ZL,h6.below q ZL⟩
theorem GRow.qrow {w:World}{A:Option Addr}{l:List Rat}(h:GRow w A (l.map frq))(hf:∀q∈l,Few q):QRow w A l:=fun j hj=>by
 obtain⟨g,o,hA,A',c,B,d,h1,h2,h3,h4,h5,h6⟩:=h j (by rw[List.length_map];exact hj);have e:(l.map frq).getD j fr0=frq (l.getD j 0):=by
  rw[gE,gE,List.getElem?_map,gG hj];rfl
 rw[e]at h1 h2 h3 h4 h5 h6;exact⟨g,o,hA,A',c,B,d,h1,h2,h3,h4,h5,h6,hf _ (by rw[gE,gG hj];exact List.getElem_mem hj)⟩
theorem frs_of:∀(l:List Fr),(∀f∈l,Ok f.xs∧Ok f.ys∧frB f=true)→∃qs:List Rat,l=qs.map frq∧∀q∈qs,Few q∧0≤q
 |[],_=>⟨[],rfl,fun q h=>by cases h⟩
 |f::l,h=>by
  obtain⟨qs,e,hq⟩:=frs_of l fun f hf=>h f (List.mem_cons_of_mem _ hf);obtain⟨h1,h2,h3⟩:=h f List.mem_cons_self;unfold frB at h3;rw[Bool.and_eq_true]at h3;obtain⟨q,e1,e2,e3,e4,hf⟩:=rat_of h1 h2 h3.1;have h4:sN q.num=false:=by
   rw[←e1];simpa using h3.2
  refine⟨q::qs,?_,fun x hx=> ?_⟩
  ·rw[List.map_cons,←e];congr 1;obtain⟨n,xs,m,ys⟩:=f;simp only at e1 e2 e3 e4;subst e1 e2 e3 e4;rfl
  ·rcases List.mem_cons.1 hx with rfl|hx
   ·exact⟨hf,Rat.num_nonneg.1 (by simpa[sN]using h4)⟩
   ·exact hq x hx
theorem frB_step (f:Fr)(l:List Fr):(f::l).all frB=(frB f&&l.all frB):=rfl
theorem sgn_neg_iff (q:Rat):decide (sgnQ q<0)=sN q.num:=by
 rcases sgn_parts q with ⟨h1,h2⟩|⟨h1,h2,h3⟩|⟨h1,h2,h3⟩
 ·rw[h2];symm;show decide (q.num<0)=decide ((0:Int)<0);rw[sD_nil.1 h1]
 ·rw[h2,h3];rfl
 ·rw[h2,h3];rfl
def numbersB (p:Pg)(l:List Fr):Bool:=decide (l.length=p.a.length)&&l.all frB
theorem numbers_any {w:World}{m:Pa}{p:Pg}{A:Option Addr}{c:Nat}{l:List Fr}(h:GRow w A l)(hs:l.length≤1000000):Calls Tryz.prog 68 #[.agg (pgC m p),.slice A l.length c] w fun e w'=>e= .returned (.bool (numbersB p l))∧Below w.heap.size w w':=by
 have HG:=ZH h;have M:=(Mem.start w).new tyP (pgC m p);obtain⟨p0,p1,p2,p3,p4⟩:=(M.k (i:=0) rfl).fiveP;clear h;by_cases hl:l.length=p.a.length
 ·have d0:((l.length:Int) !=(p.a.length:Int))=false:=by rw[hl];simp
  obtain⟨R,hR⟩:∃R,numbersB p l=R:=⟨_,rfl⟩;rw[hR];have HR:Hid (R=(l.drop 0).all frB):=by
   show R=_;rw[←hR];unfold numbersB;rw[dT hl];rfl
  generalize p.a.length=la at*;subst hl;clear hR;go_enter Tryz.func68,Tryz.ntmps68;go_wp2_with fail;go_loopg [15] l.length (fun k pp wr=>∃j,k=l.length-j∧j≤l.length∧pp= .int .i64 (j:Nat)∧Hid (R=(l.drop j).all frB)∧Below w.heap.size w wr)
  case atStart=>exact⟨0,rfl,Nat.zero_le _,rfl,HR.out,M.bel⟩
  case round=>
   clear HR M p0 p1 p2 p3 p4;obtain⟨j,hk,hj,rfl,HL,hq⟩:=hrel;by_cases hlt:j<l.length
   ·have d1:decide ((j:Int)<(l.length:Int))=true:=dT (by omega);obtain⟨g,o,rfl,A',c',B',d',a1,a2,a3,a4,hx,hy⟩:=(HG.out.below hq) j hlt;have HC:Hid (R=((qright (l.getD j fr0).n (l.getD j fr0).xs (l.getD j fr0).m (l.getD j fr0).ys&& !(l.getD j fr0).n)&&(l.drop (j+1)).all frB)):=by
     show _=_;rw[HL.out,drop_at (z:=fr0) hlt,frB_step];rfl
    generalize (l.getD j fr0).n=n1 at*;generalize (l.getD j fr0).xs=xs1 at*;generalize (l.getD j fr0).m=n2 at*;generalize (l.getD j fr0).ys=ys1 at*;have HX:=ZH hx;have HY:=ZH hy;clear HL hx hy;have M2:=(Mem.start wr).new 72 z4;go_upto_region 6 with ((with_reducible refine st_ ?_);refine wP2 _ _ (M2.k (i:=0) rfl) rfl rfl rfl rfl info_rat rfl rfl ?_;intro w5 b5 g5';replace M2:=M2.row (by omega) (by simp) rfl b5 g5');have HX2:=ZH (HX.out.below M2.bel ZL);have HY2:=ZH (HY.out.below M2.bel ZL);obtain⟨f1,f2,f3,f4⟩:=(M2.k (i:=0) rfl).four;have HQ2:=ZH (bT hq M2.bel);have HB2:=ZH (M2.k (i:=0) rfl);clear b5 g5' a1 a2 a3 a4 HX HY M2 hq;cases hqr:qright n1 xs1 n2 ys1 with
    |false=>
     have HC2:Hid (R=false):=HC.out.trans (by rw[hqr];rfl);have HQR:=ZH (qright_any (n:=n1) (m:=n2) HX2.out HY2.out);rw[hqr]at HQR;clear HC hqr;go_wp2_with fail;refine HQR.out.mono ?_;rintro e w6 ⟨rfl,q6⟩;go_wp2_with fail;exact bodyPost_ret (v:= .bool false) (by simp[results,Tryz.results68,go_sem]) rfl ⟨by rw[HC2.out],bT HQ2.out q6⟩
    |true=>
     have HQR:=ZH (qright_any (n:=n1) (m:=n2) HX2.out HY2.out);rw[hqr]at HQR HC;obtain⟨q,e1,e2,e3,e4,hfew⟩:=rat_of HX2.out.ok HY2.out.ok hqr;have hsg:=sgn_neg_iff q;rw[←e1]at hsg;obtain⟨Sg,hSg⟩:∃Sg,sgnQ q=Sg:=⟨_,rfl⟩;have HSG:Hid (∀w',Calls Tryz.prog 114 #[rv n1 A' xs1.length c' n2 B' ys1.length d'] w' fun e w2=>e= .returned (.int .i64 Sg)∧Below w'.heap.size w' w2):=fun w'=>by
      subst e1 e2 e3 e4 hSg;exact psign_any (p:=q)
     rw[hSg]at hsg;clear hqr e1 e2 e3 e4 hfew hSg;have HB1:=ZH hsg;go_wp2_with fail;refine HQR.out.mono ?_;rintro e w6 ⟨rfl,q6⟩;have b6:=HB2.out.below q6 ZL;obtain⟨f1,f2,f3,f4⟩:=b6.four;go_wp2_with fail;refine(HSG.out _).mono ?_;rintro e w7 ⟨rfl,q7⟩;have hq7:=bT (bT HQ2.out q6) q7;cases n1 with
     |true=>
      have HC2:Hid (R=false):=HC.out.trans rfl;go_wp2_with fail;exact bodyPost_ret (v:= .bool false) (by simp[results,Tryz.results68,go_sem]) rfl ⟨by rw[HC2.out],hq7⟩
     |false=>
      have HC2:Hid (R=(l.drop (j+1)).all frB):=HC.out.trans rfl;clear HC;go_wp2_with fail;go_roundg (l.length-(j+1))
      case measure=>omega
      case rel=>exact⟨j+1,rfl,by omega,by simp,HC2.out,hq7⟩
   ·have d1:decide ((j:Int)<(l.length:Int))=false:=dF (by omega);have HC2:Hid (R=true):=by
     show _=_;rw[HL.out,drop_none hlt];rfl
    clear HL;go_wp2_with fail;exact bodyPost_ret (v:= .bool true) (by simp[results,Tryz.results68,go_sem]) rfl ⟨by rw[HC2.out],hq⟩
 ·have d0:((l.length:Int) !=(p.a.length:Int))=true:=by
   rw[bne_iff_ne];omega
  have HR:Hid (numbersB p l=false):=by
   show numbersB p l=false;unfold numbersB;rw[dF hl];rfl
  generalize numbersB p l=R at*;generalize p.a.length=la at*;clear hl;go_enter Tryz.func68,Tryz.ntmps68;go_wp2_with fail;exact bodyPost_ret (v:= .bool false) (by simp[results,Tryz.results68,go_sem]) rfl ⟨by rw[HR.out],M.bel⟩
end Go.Proofs.YtecfcjdgmpopjaaGreat

import Derived.Test.YtpnmcacndjkfaaaGreatKF
set_option maxHeartbeats 8000000
set_option maxRecDepth 100000
set_option linter.unusedSimpArgs false
set_option linter.unusedVariables false
namespace Go.Proofs.YtpnmcacndjkfaaaGreat
open Go.RowKit Num
theorem nearL_step (most z:Int)(l:List Int):nearL most (z::l)=((decide (-most≤z)&&decide (z≤most))&&nearL most l):=rfl
theorem nearS_any {w:World}{A:Option Addr}{c:Nat}{l:List Int}(h:IRow w A l)(hs:l.length≤1000000):Calls Tryz.prog 55 #[.slice A l.length c,.int .i64 1048576] w fun e w'=>e= .returned (.bool (nearL 1048576 l))∧Below w.heap.size w w':=by
 have HI:=ZH h;obtain⟨R,hR⟩:∃R,nearL 1048576 l=R:=⟨_,rfl⟩;rw[hR];have HR:Hid (R=nearL 1048576 (l.drop 0)):=hR.symm;clear hR h;go_enter Tryz.func55,Tryz.ntmps55;go_wp2_with fail;go_loopg [9] l.length (fun k p wr=>∃j,k=l.length-j∧j≤l.length∧p= .int .i64 (j:Nat)∧Hid (R=nearL 1048576 (l.drop j))∧Below w.heap.size w wr)
 case atStart=>exact⟨0,rfl,Nat.zero_le _,rfl,HR.out,Below.refl _ _⟩
 case round=>
  clear HR;obtain⟨j,hk,hj,rfl,HL,hq⟩:=hrel;by_cases hlt:j<l.length
  ·have d1:decide ((j:Int)<(l.length:Int))=true:=decide_eq_true (by omega);obtain⟨g,o,rfl,cj⟩:=(HI.out.below hq) j hlt;replace cj:wr.cell? ⟨g,o+j,none⟩=some (.int .i64 (l.getD j 0)):=cj;have HC:Hid (R=((decide (-1048576≤l.getD j 0)&&decide (l.getD j 0≤1048576))&&nearL 1048576 (l.drop (j+1)))):=by
    show _=_;rw[HL.out,drop_at (z:=0) hlt,nearL_step]
   generalize l.getD j 0=z at*;clear HL;by_cases h1:z< -1048576
   ·have d2:decide (z< -1048576)=true:=decide_eq_true h1;have HC2:Hid (R=false):=HC.out.trans (by rw[decide_eq_false (show ¬ -1048576≤z by omega)];rfl);clear HC;go_wp2_with fail;exact bodyPost_ret (v:= .bool false) (by simp[results,Tryz.results55,go_sem]) rfl ⟨by rw[HC2.out],hq⟩
   ·have d2:decide (z< -1048576)=false:=decide_eq_false h1;by_cases h2:1048576<z
    ·have d3:decide (1048576<z)=true:=decide_eq_true h2;have HC2:Hid (R=false):=HC.out.trans (by rw[decide_eq_false (show ¬z≤1048576 by omega),Bool.and_false];rfl);clear HC;go_wp2_with fail;exact bodyPost_ret (v:= .bool false) (by simp[results,Tryz.results55,go_sem]) rfl ⟨by rw[HC2.out],hq⟩
    ·have d3:decide (1048576<z)=false:=decide_eq_false h2;have HC2:Hid (R=nearL 1048576 (l.drop (j+1))):=HC.out.trans (by rw[decide_eq_true (show-1048576≤z by omega),decide_eq_true (show z≤1048576 by omega)];rfl);clear HC;go_wp2_with fail;go_roundg (l.length-(j+1))
     case measure=>omega
     case rel=>exact⟨j+1,rfl,by omega,by simp,HC2.out,hq⟩
  ·have d1:decide ((j:Int)<(l.length:Int))=false:=decide_eq_false (by omega);have HC2:Hid (R=true):=by
    show _=_;rw[HL.out,drop_none hlt];rfl
   clear HL;go_wp2_with fail;exact bodyPost_ret (v:= .bool true) (by simp[results,Tryz.results55,go_sem]) rfl ⟨by rw[HC2.out],hq⟩
theorem nearB_any {w:World}{A:Option Addr}{c:Nat}{l:List Int}(h:IRow w A l)(hs:l.length≤1000000):Calls Tryz.prog 55 #[.slice A l.length c,.int .i64 1099511627776] w fun e w'=>e= .returned (.bool (nearL 1099511627776 l))∧Below w.heap.size w w':=by
 have HI:=ZH h;obtain⟨R,hR⟩:∃R,nearL 1099511627776 l=R:=⟨_,rfl⟩;rw[hR];have HR:Hid (R=nearL 1099511627776 (l.drop 0)):=hR.symm;clear hR h;go_enter Tryz.func55,Tryz.ntmps55;go_wp2_with fail;go_loopg [9] l.length (fun k p wr=>∃j,k=l.length-j∧j≤l.length∧p= .int .i64 (j:Nat)∧Hid (R=nearL 1099511627776 (l.drop j))∧Below w.heap.size w wr)
 case atStart=>exact⟨0,rfl,Nat.zero_le _,rfl,HR.out,Below.refl _ _⟩
 case round=>
  clear HR;obtain⟨j,hk,hj,rfl,HL,hq⟩:=hrel;by_cases hlt:j<l.length
  ·have d1:decide ((j:Int)<(l.length:Int))=true:=decide_eq_true (by omega);obtain⟨g,o,rfl,cj⟩:=(HI.out.below hq) j hlt;replace cj:wr.cell? ⟨g,o+j,none⟩=some (.int .i64 (l.getD j 0)):=cj;have HC:Hid (R=((decide (-1099511627776≤l.getD j 0)&&decide (l.getD j 0≤1099511627776))&&nearL 1099511627776 (l.drop (j+1)))):=by
    show _=_;rw[HL.out,drop_at (z:=0) hlt,nearL_step]
   generalize l.getD j 0=z at*;clear HL;by_cases h1:z< -1099511627776
   ·have d2:decide (z< -1099511627776)=true:=decide_eq_true h1;have HC2:Hid (R=false):=HC.out.trans (by rw[decide_eq_false (show ¬ -1099511627776≤z by omega)];rfl);clear HC;go_wp2_with fail;exact bodyPost_ret (v:= .bool false) (by simp[results,Tryz.results55,go_sem]) rfl ⟨by rw[HC2.out],hq⟩
   ·have d2:decide (z< -1099511627776)=false:=decide_eq_false h1;by_cases h2:1099511627776<z
    ·have d3:decide (1099511627776<z)=true:=decide_eq_true h2;have HC2:Hid (R=false):=HC.out.trans (by rw[decide_eq_false (show ¬z≤1099511627776 by omega),Bool.and_false];rfl);clear HC;go_wp2_with fail;exact bodyPost_ret (v:= .bool false) (by simp[results,Tryz.results55,go_sem]) rfl ⟨by rw[HC2.out],hq⟩
    ·have d3:decide (1099511627776<z)=false:=decide_eq_false h2;have HC2:Hid (R=nearL 1099511627776 (l.drop (j+1))):=HC.out.trans (by rw[decide_eq_true (show-1099511627776≤z by omega),decide_eq_true (show z≤1099511627776 by omega)];rfl);clear HC;go_wp2_with fail;go_roundg (l.length-(j+1))
     case measure=>omega
     case rel=>exact⟨j+1,rfl,by omega,by simp,HC2.out,hq⟩
  ·have d1:decide ((j:Int)<(l.length:Int))=false:=decide_eq_false (by omega);have HC2:Hid (R=true):=by
    show _=_;rw[HL.out,drop_none hlt];rfl
   clear HL;go_wp2_with fail;exact bodyPost_ret (v:= .bool true) (by simp[results,Tryz.results55,go_sem]) rfl ⟨by rw[HC2.out],hq⟩
structure PgSz (p:Pg):Prop where
 lo:p.lo.length≤1000000
 hi:p.hi.length≤1000000
 c:p.c.length≤1000000
 b:p.b.length≤1000000
 a:p.a.length≤1000000
 r:∀i,i<p.a.length→(p.a.getD i []).length≤1000000
def rightA (n:Nat)(a:List (List Int)):Bool:=a.all fun r=>decide (r.length=n)&&nearL 1048576 r
theorem rightA_step (n:Nat)(r:List Int)(a:List (List Int)):rightA n (r::a)=((decide (r.length=n)&&nearL 1048576 r)&&rightA n a):=rfl
theorem endsL_step (l h:Int)(ls hs:List Int):endsL (l::ls) (h::hs)=(decide (l≤h)&&endsL ls hs):=rfl
theorem rightPg_eq (p:Pg):rightPg p=(decide (p.lo.length≤64)&&(decide (p.hi.length=p.lo.length)&&(decide (p.c.length=p.lo.length)&&(decide (p.a.length=p.b.length)&&(decide (p.a.length≤160)&&
 (nearL 1048576 p.lo&&(nearL 1048576 p.hi&&(nearL 1048576 p.c&&(nearL 1099511627776 p.b&&(endsL p.lo p.hi&&rightA p.lo.length p.a)))))))))):=rfl
theorem pright_any {w:World}{m:Pa}{p:Pg}(hp:PgAt w m p)(hz:PgSz p):Calls Tryz.prog 28 #[.agg (pgC m p)] w fun e w'=>e= .returned (.bool (rightPg p))∧Below w.heap.size w w':=by
 have HP:=ZH hp;have HZ:=ZH hz;have HE:=ZH (rightPg_eq p);obtain⟨R,hR⟩:∃R,rightPg p=R:=⟨_,rfl⟩;rw[hR]at HE⊢;have hb0:=Blk.new w tyP (pgC m p);have HB0:=ZH hb0;have HQ0:=ZH (below_alloc1 w (.cells (pgC m p) tyP));obtain⟨p0,p1,p2,p3,p4⟩:=hb0.fiveP;clear hR hp hz hb0;go_enter Tryz.func28,Tryz.ntmps28;have zlo:=HZ.out.lo;have zhi:=HZ.out.hi;have zc:=HZ.out.c;have zb:=HZ.out.b;have za:=HZ.out.a;by_cases g1:p.lo.length≤64
 ·have d1:decide ((64:Int)<(p.lo.length:Int))=false:=decide_eq_false (by omega);have HE:=ZH (HE.out.trans (by rw[decide_eq_true g1,Bool.true_and]));by_cases g2:p.hi.length=p.lo.length
  ·have d2:((p.hi.length:Int) !=(p.lo.length:Int))=false:=by rw[g2];simp
   have HE:=ZH (HE.out.trans (by rw[decide_eq_true g2,Bool.true_and]));have hh1:p.hi.length≤p.lo.length:=by omega
   have hh2:p.lo.length≤p.hi.length:=by omega
   clear g2;by_cases g3:p.c.length=p.lo.length
   ·have d3:((p.c.length:Int) !=(p.lo.length:Int))=false:=by rw[g3];simp
    have HE:=ZH (HE.out.trans (by rw[decide_eq_true g3,Bool.true_and]));clear g3;by_cases g4:p.a.length=p.b.length
    ·have d4:((p.a.length:Int) !=(p.b.length:Int))=false:=by rw[g4];simp
     have HE:=ZH (HE.out.trans (by rw[decide_eq_true g4,Bool.true_and]));clear g4;by_cases g5:p.a.length≤160
     ·have d5:decide ((160:Int)<(p.a.length:Int))=false:=decide_eq_false (by omega);have HE:=ZH (HE.out.trans (by rw[decide_eq_true g5,Bool.true_and]));have hq1:=HQ0;have hb1:=ZH (HB0.out:Blk _ w.heap.size tyP (pgC m p));have ha160:p.a.length≤160:=g5;clear g5;obtain⟨N1,hN1⟩:∃N1,nearL 1048576 p.lo=N1:=⟨_,rfl⟩;obtain⟨N2,hN2⟩:∃N2,nearL 1048576 p.hi=N2:=⟨_,rfl⟩;obtain⟨N3,hN3⟩:∃N3,nearL 1048576 p.c=N3:=⟨_,rfl⟩;obtain⟨N4,hN4⟩:∃N4,nearL 1099511627776 p.b=N4:=⟨_,rfl⟩;have C1:Hid (∀w',Below w.heap.size w w'→Calls Tryz.prog 55 #[.slice m.lo.1 p.lo.length m.lo.2,.int .i64 1048576] w' fun e w2=>e= .returned (.bool N1)∧Below w'.heap.size w' w2):=fun w' q=>by rw[←hN1];exact nearS_any (HP.out.lo.below q) zlo
      have C2:Hid (∀w',Below w.heap.size w w'→Calls Tryz.prog 55 #[.slice m.hi.1 p.hi.length m.hi.2,.int .i64 1048576] w' fun e w2=>e= .returned (.bool N2)∧Below w'.heap.size w' w2):=fun w' q=>by rw[←hN2];exact nearS_any (HP.out.hi.below q) zhi
      have C3:Hid (∀w',Below w.heap.size w w'→Calls Tryz.prog 55 #[.slice m.c.1 p.c.length m.c.2,.int .i64 1048576] w' fun e w2=>e= .returned (.bool N3)∧Below w'.heap.size w' w2):=fun w' q=>by rw[←hN3];exact nearS_any (HP.out.c.below q) zc
      have C4:Hid (∀w',Below w.heap.size w w'→Calls Tryz.prog 55 #[.slice m.b.1 p.b.length m.b.2,.int .i64 1099511627776] w' fun e w2=>e= .returned (.bool N4)∧Below w'.heap.size w' w2):=fun w' q=>by rw[←hN4];exact nearB_any (HP.out.b.below q) zb
      rw[hN1,hN2,hN3,hN4]at HE;clear hN1 hN2 hN3 hN4;go_wp2_with fail;refine(C1.out _ hq1.out).mono ?_;rintro e w1 ⟨rfl,q⟩;have hq1:=ZH (below_trans hq1.out q);have hb1:=ZH (hb1.out.below q ZL);obtain⟨p0,p1,p2,p3,p4⟩:=hb1.out.fiveP;clear q;cases N1 with
      |false=>
       have HC:Hid (R=false):=HE.out;go_wp2_with fail;exact bodyPost_ret (v:= .bool false) (by simp[results,Tryz.results28,go_sem]) rfl ⟨by rw[HC.out],hq1.out⟩
      |true=>
       go_wp2_with fail;refine(C2.out _ hq1.out).mono ?_;rintro e w1 ⟨rfl,q⟩;have hq1:=ZH (below_trans hq1.out q);have hb1:=ZH (hb1.out.below q ZL);obtain⟨p0,p1,p2,p3,p4⟩:=hb1.out.fiveP;clear q;cases N2 with
       |false=>
        have HC:Hid (R=false):=HE.out;go_wp2_with fail;exact bodyPost_ret (v:= .bool false) (by simp[results,Tryz.results28,go_sem]) rfl ⟨by rw[HC.out],hq1.out⟩
       |true=>
        go_wp2_with fail;refine(C3.out _ hq1.out).mono ?_;rintro e w1 ⟨rfl,q⟩;have hq1:=ZH (below_trans hq1.out q);have hb1:=ZH (hb1.out.below q ZL);obtain⟨p0,p1,p2,p3,p4⟩:=hb1.out.fiveP;clear q;cases N3 with
        |false=>
         have HC:Hid (R=false):=HE.out;go_wp2_with fail;exact bodyPost_ret (v:= .bool false) (by simp[results,Tryz.results28,go_sem]) rfl ⟨by rw[HC.out],hq1.out⟩
        |true=>
         go_wp2_with fail;refine(C4.out _ hq1.out).mono ?_;rintro e w1 ⟨rfl,q⟩;have hq1:=ZH (below_trans hq1.out q);have hb1:=ZH (hb1.out.below q ZL);obtain⟨p0,p1,p2,p3,p4⟩:=hb1.out.fiveP;clear q;cases N4 with
         |false=>
          have HC:Hid (R=false):=HE.out;go_wp2_with fail;exact bodyPost_ret (v:= .bool false) (by simp[results,Tryz.results28,go_sem]) rfl ⟨by rw[HC.out],hq1.out⟩
         |true=>
          have HE0:Hid (R=(endsL (p.lo.drop 0) (p.hi.drop 0)&&rightA p.lo.length p.a)):=HE.out;clear HE C1 C2 C3 C4;go_wp2_with fail;go_loopg [64] p.lo.length (fun k pp wr=>∃j,k=p.lo.length-j∧j≤p.lo.length∧pp= .int .i64 (j:Nat)∧Hid (R=(endsL (p.lo.drop j) (p.hi.drop j)&&rightA p.lo.length p.a))∧Hid (Below w.heap.size w wr)∧Blk wr w.heap.size tyP (pgC m p))
          case atStart=>exact⟨0,rfl,Nat.zero_le _,rfl,HE0.out,hq1.out,hb1.out⟩
          case round=>
           clear HE0 hq1 hb1 p0 p1 p2 p3 p4;obtain⟨j,hk,hj,rfl,HL,hq1,hpb⟩:=hrel;have HPB:=ZH hpb;obtain⟨p0,p1,p2,p3,p4⟩:=hpb.fiveP;by_cases hlt:j<p.lo.length
           ·have d1:decide ((j:Int)<(p.lo.length:Int))=true:=decide_eq_true (by omega);have hlt2:j<p.hi.length:=by omega
            obtain⟨gl,ol,hA0,c0⟩:=(HP.out.lo.below hq1.out) j hlt;obtain⟨gh,oh,hA1,c1⟩:=(HP.out.hi.below hq1.out) j hlt2;replace c0:wr.cell? ⟨gl,ol+j,none⟩=some (.int .i64 (p.lo.getD j 0)):=c0;replace c1:wr.cell? ⟨gh,oh+j,none⟩=some (.int .i64 (p.hi.getD j 0)):=c1;rw[hA0]at p0;rw[hA1]at p1;have P0:=Lk.of p0;have P1:=Lk.of p1;have C0:=Lk.of c0;have C1:=Lk.of c1;have HC:Hid (R=((decide (p.lo.getD j 0≤p.hi.getD j 0)&&endsL (p.lo.drop (j+1)) (p.hi.drop (j+1)))&&rightA p.lo.length p.a)):=by
             show _=_;rw[HL.out,drop_at (z:=0) hlt,drop_at (z:=0) hlt2,endsL_step]
            clear hA0 hA1 p0 p1 p2 p3 p4 c0 c1 hpb HL;generalize p.lo.getD j 0=zl at*;generalize p.hi.getD j 0=zh at*;have M:=Mem.start wr;go_upto_region 9 with fail;refine region_st (n:=11) (frame:= ?frame1) (fun jK=>[.val (.fix (.pointer (some ⟨w.heap.size,0,none⟩))),.val (.fix (.slice (some ⟨gl,ol,none⟩) p.lo.length m.lo.2)),.val (.fix (.int .i64 (j:Nat))),.val (.fix (.pointer (some ⟨gl,ol+j,none⟩))),.val (.fix (.int .i64 zl)),.val (.fix (.pointer (some ⟨w.heap.size,1,none⟩))),.val (.fix (.slice (some ⟨gh,oh,none⟩) p.hi.length m.hi.2)),.val (.fix (.int .i64 (j:Nat))),.val (.fix (.pointer (some ⟨gh,oh+j,none⟩))),.val (.fix (.int .i64 zh)),.val (.fix (.bool (decide (zh<zl))))].getD jK .none) [] (by kernel_rfl) (by kernel_rfl) (by kernel_rfl) rfl M (fun _ h=>by cases h) (fun _ h=>by cases h) ?_ ?_ ?_
            case refine_1=>
             intro s;simp only[fr,Act.put,zA,zB,zC,zD,zE,zF,Nat.reduceAdd];rfl
            case refine_2=>
             refine SC 0 1 rfl ?_ (SC 1 2 rfl ?_ (SC 2 3 rfl ?_ (SC 3 4 rfl ?_ (SC 4 5 rfl ?_ (SC 5 6 rfl ?_ (SC 6 7 rfl ?_ (SC 7 8 rfl ?_ (SC 8 9 rfl ?_ (SC 9 10 rfl ?_ (SC 10 11 rfl ?_ Steps.nil))))))))));all_goals (intro L s w9 hN hU hi hS K hK;dsimp only at hK⊢;simp only[Act.put,zD,zE,zF]at hK)
             ·go_simp;exact hS.o hK
             ·have e0:=hS.f hN 0;simp only[e0]at hK⊢;have u0:=P0 _ hS.mem.bel;go_simp;exact hS.o hK
             ·go_simp;exact hS.o hK
             ·have e1:=hS.f hN 1;simp only[e1]at hK⊢;have e2:=hS.f hN 2;simp only[e2]at hK⊢;go_simp;exact hS.o hK
             ·have e3:=hS.f hN 3;simp only[e3]at hK⊢;have u0:=C0 _ hS.mem.bel;go_simp;exact hS.o hK
             ·go_simp;exact hS.o hK
             ·have e5:=hS.f hN 5;simp only[e5]at hK⊢;have u0:=P1 _ hS.mem.bel;go_simp;exact hS.o hK
             ·go_simp;exact hS.o hK
             ·have e6:=hS.f hN 6;simp only[e6]at hK⊢;have e7:=hS.f hN 7;simp only[e7]at hK⊢;go_simp;exact hS.o hK
             ·have e8:=hS.f hN 8;simp only[e8]at hK⊢;have u0:=C1 _ hS.mem.bel;go_simp;exact hS.o hK
             ·have e4:=hS.f hN 4;simp only[e4]at hK⊢;have e9:=hS.f hN 9;simp only[e9]at hK⊢;go_simp;exact hS.o hK
            intro L s w9 hall hS;have e10:=hS.fx 10 rfl rfl (hall 10 (by decide));have q3:=hS.mem.bel;simp only[e10];have HQ3:=ZH (below_trans hq1.out q3);have HB3:=ZH (HPB.out.below q3 ZL);clear hS hall e10 q3 P0 P1 C0 C1;by_cases hzz:zh<zl
            ·have HC2:Hid (R=false):=HC.out.trans (by rw[decide_eq_false (show ¬zl≤zh by omega)];rfl);rw[decide_eq_true hzz];clear HC;go_wp2_with fail;exact bodyPost_ret (v:= .bool false) (by simp[results,Tryz.results28,go_sem]) rfl ⟨by rw[HC2.out],HQ3.out⟩
            ·have HC2:Hid (R=(endsL (p.lo.drop (j+1)) (p.hi.drop (j+1))&&rightA p.lo.length p.a)):=HC.out.trans (by rw[decide_eq_true (show zl≤zh by omega),Bool.true_and]);rw[decide_eq_false hzz];clear HC;go_wp2_with fail;go_roundg (p.lo.length-(j+1))
             case measure=>omega
             case rel=>exact⟨j+1,rfl,by omega,by simp,HC2.out,HQ3.out,HB3.out⟩
           ·have d1:decide ((j:Int)<(p.lo.length:Int))=false:=decide_eq_false (by omega);have HE1:Hid (R=rightA p.lo.length (p.a.drop 0)):=by
             show _=_;rw[HL.out,drop_none hlt];rfl
            clear HL;obtain⟨AA,hAA⟩:∃AA,m.a.1=AA:=⟨_,rfl⟩;rw[hAA]at p2;have HAA:=ZH hAA;clear hAA;obtain⟨W0,rfl⟩:∃W0,W0=wr:=⟨_,rfl⟩;go_wp2_with fail;go_loopg [82] p.a.length (fun k pp wr=>∃i,k=p.a.length-i∧i≤p.a.length∧pp= .int .i64 (i:Nat)∧Hid (R=rightA p.lo.length (p.a.drop i))∧Hid (Below w.heap.size w wr))
            case atStart=>exact⟨0,rfl,Nat.zero_le _,rfl,HE1.out,hq1.out⟩
            case round=>
             clear HE1 p0 p1 p2 p3 p4 d1 hlt hpb;obtain⟨i,hk2,hi,rfl,HL,hq2⟩:=hrel;by_cases hlt:i<p.a.length
             ·have d1:decide ((i:Int)<(p.a.length:Int))=true:=decide_eq_true (by omega);obtain⟨ga,oa,hA2,ci⟩:=(HP.out.ap.below hq2.out) i hlt;replace ci:wr.cell? ⟨ga,oa+i,none⟩=some (.slice (m.rs.getD i (none,0)).1 (p.a.getD i []).length (m.rs.getD i (none,0)).2):=ci;rw[HAA.out]at hA2;subst hA2;have har:=(HP.out.below hq2.out).ar i hlt;have hzr:=HZ.out.r i hlt;have HC:Hid (R=((decide ((p.a.getD i []).length=p.lo.length)&&nearL 1048576 (p.a.getD i []))&&rightA p.lo.length (p.a.drop (i+1)))):=by
               show _=_;rw[HL.out,drop_at (z:=[]) hlt,rightA_step]
              have HN:=ZH (nearS_any (c:=(m.rs.getD i (none,0)).2) har hzr);clear HL har;generalize p.a.getD i []=row at*;generalize (m.rs.getD i (none,0)).1=RA at*;generalize (m.rs.getD i (none,0)).2=cR at*;by_cases hrl:row.length=p.lo.length
              ·have d2:((row.length:Int) !=(p.lo.length:Int))=false:=by rw[hrl];simp
               have HC:=ZH (HC.out.trans (by rw[decide_eq_true hrl,Bool.true_and]));clear hrl;generalize nearL 1048576 row=NR at*;go_wp2_with fail;refine HN.out.mono ?_;rintro e w3 ⟨rfl,q3⟩;have HQ3:=ZH (below_trans hq2.out q3);clear q3;cases NR with
               |false=>
                have HC2:Hid (R=false):=HC.out;clear HC;go_wp2_with fail;exact bodyPost_ret (v:= .bool false) (by simp[results,Tryz.results28,go_sem]) rfl ⟨by rw[HC2.out],HQ3.out⟩
               |true=>
                have HC2:Hid (R=rightA p.lo.length (p.a.drop (i+1))):=HC.out;clear HC;go_wp2_with fail;go_roundg (p.a.length-(i+1))
                case measure=>omega
                case rel=>exact⟨i+1,rfl,by omega,by simp,HC2.out,HQ3.out⟩
              ·have d2:((row.length:Int) !=(p.lo.length:Int))=true:=ne_boolK (by omega);have HC2:Hid (R=false):=HC.out.trans (by rw[decide_eq_false hrl];rfl);clear HC HN;go_wp2_with fail;exact bodyPost_ret (v:= .bool false) (by simp[results,Tryz.results28,go_sem]) rfl ⟨by rw[HC2.out],hq2.out⟩
             ·have d1:decide ((i:Int)<(p.a.length:Int))=false:=decide_eq_false (by omega);have HC2:Hid (R=true):=by
               show _=_;rw[HL.out,drop_none hlt];rfl
              clear HL;go_wp2_with fail;exact bodyPost_ret (v:= .bool true) (by simp[results,Tryz.results28,go_sem]) rfl ⟨by rw[HC2.out],hq2.out⟩
     ·have d5:decide ((160:Int)<(p.a.length:Int))=true:=decide_eq_true (by omega);have HC:Hid (R=false):=HE.out.trans (by rw[decide_eq_false g5];rfl);go_wp2_with fail;exact bodyPost_ret (v:= .bool false) (by simp[results,Tryz.results28,go_sem]) rfl ⟨by rw[HC.out],HQ0.out⟩
    ·have d4:((p.a.length:Int) !=(p.b.length:Int))=true:=ne_boolK (by omega);have HC:Hid (R=false):=HE.out.trans (by rw[decide_eq_false g4];rfl);go_wp2_with fail;exact bodyPost_ret (v:= .bool false) (by simp[results,Tryz.results28,go_sem]) rfl ⟨by rw[HC.out],HQ0.out⟩
   ·have d3:((p.c.length:Int) !=(p.lo.length:Int))=true:=ne_boolK (by omega);have HC:Hid (R=false):=HE.out.trans (by rw[decide_eq_false g3];rfl);go_wp2_with fail;exact bodyPost_ret (v:= .bool false) (by simp[results,Tryz.results28,go_sem]) rfl ⟨by rw[HC.out],HQ0.out⟩
  ·have d2:((p.hi.length:Int) !=(p.lo.length:Int))=true:=ne_boolK (by omega);have HC:Hid (R=false):=HE.out.trans (by rw[decide_eq_false g2];rfl);go_wp2_with fail;exact bodyPost_ret (v:= .bool false) (by simp[results,Tryz.results28,go_sem]) rfl ⟨by rw[HC.out],HQ0.out⟩
 ·have d1:decide ((64:Int)<(p.lo.length:Int))=true:=decide_eq_true (by omega);have HC:Hid (R=false):=HE.out.trans (by rw[decide_eq_false g1];rfl);go_wp2_with fail;exact bodyPost_ret (v:= .bool false) (by simp[results,Tryz.results28,go_sem]) rfl ⟨by rw[HC.out],HQ0.out⟩
end Go.Proofs.YtpnmcacndjkfaaaGreat

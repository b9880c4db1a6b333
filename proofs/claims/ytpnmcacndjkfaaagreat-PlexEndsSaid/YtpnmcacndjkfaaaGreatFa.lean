/-
  Joined texts: KU, KV, Fa.
-/
import Derived.Test.YtpnmcacndjkfaaaGreatKT
set_option maxHeartbeats 8000000
set_option maxRecDepth 100000
set_option linter.unusedSimpArgs false
set_option linter.unusedVariables false
namespace Go.Proofs.YtpnmcacndjkfaaaGreat
open Go.RowKit Num
def rowsB (n:Nat):List (List Int)→List Int→Bool
 |r::a,z::b=>(decide (r.length=n)&&(nearL 1048576 r&&(decide (-1099511627776≤z)&&decide (z≤1099511627776))))&&rowsB n a b
 |_,_=>true
theorem rowsB_eq (n:Nat):∀(a:List (List Int))(b:List Int),a.length=b.length→(nearL 1099511627776 b&&rightA n a)=rowsB n a b
 |[],[],_=>rfl
 |[],_::_,h=>by cases h
 |_::_,[],h=>by cases h
 |r::a,z::b,h=>by
  rw[nearL_step,rightA_step];show _=((decide (r.length=n)&&(nearL 1048576 r&&(decide (-1099511627776≤z)&&decide (z≤1099511627776))))&&rowsB n a b);rw[←rowsB_eq n a b (by simpa using h)];generalize decide (r.length=n)=b1;generalize nearL 1048576 r=b2;generalize (decide (-1099511627776≤z)&&decide (z≤1099511627776))=b3;generalize nearL 1099511627776 b=b4;generalize rightA n a=b5;cases b1<;>cases b2<;>cases b3<;>cases b4<;>cases b5<;>rfl
theorem rowsB_step (n:Nat)(r:List Int)(a:List (List Int))(z:Int)(b:List Int):rowsB n (r::a) (z::b)=((decide (r.length=n)&&(nearL 1048576 r&&(decide (-1099511627776≤z)&&decide (z≤1099511627776))))&&rowsB n a b):=rfl
theorem rrightPg_eq (p:Pg)(h:p.a.length=p.b.length):rightPg p=(decide (p.lo.length≤64)&&(decide (p.hi.length=p.lo.length)&&(decide (p.c.length=p.lo.length)&&(decide (p.a.length≤160)&&(nearL 1048576 p.lo&&(nearL 1048576 p.hi&&(nearL 1048576 p.c&&(endsL p.lo p.hi&&rowsB p.lo.length p.a p.b)))))))):=by
 rw[rightPg_eq,decide_eq_true h,←rowsB_eq p.lo.length p.a p.b h];generalize decide (p.lo.length≤64)=b1;generalize decide (p.hi.length=p.lo.length)=b2;generalize decide (p.c.length=p.lo.length)=b3;generalize decide (p.a.length≤160)=b4;generalize nearL 1048576 p.lo=b5;generalize nearL 1048576 p.hi=b6;generalize nearL 1048576 p.c=b7;generalize nearL 1099511627776 p.b=b8;generalize endsL p.lo p.hi=b9;generalize rightA p.lo.length p.a=b0;cases b1<;>cases b2<;>cases b3<;>cases b4<;>cases b5<;>cases b6<;>cases b7<;>first|rfl|(cases b8<;>cases b9<;>cases b0<;>rfl)
theorem rpright_any {w:World}{m:Pa}{p:Pg}(hp:PgAt w m p)(hz:PgSz p):Calls Tryz.prog 13 #[.agg (pgC m p)] w fun e w'=>e= .returned (.bool (rightPg p))∧Below w.heap.size w w':=by
 have HP:=ZH hp;have HZ:=ZH hz;have HE0:=ZH (rightPg_eq p);have HE:=ZH (rrightPg_eq p);obtain⟨R,hR⟩:∃R,rightPg p=R:=⟨_,rfl⟩;rw[hR]at HE HE0⊢;have hb0:=Blk.new w tyR (pgC m p);have HB0:=ZH hb0;have HQ0:=ZH (below_alloc1 w (.cells (pgC m p) tyR));obtain⟨p0,p1,p2,p3,p4⟩:=hb0.fiveP;clear hR hp hz hb0;go_enter Tryz.func13,Tryz.ntmps13;have zlo:=HZ.out.lo;have zhi:=HZ.out.hi;have zc:=HZ.out.c;have zb:=HZ.out.b;have za:=HZ.out.a;by_cases g1:p.lo.length≤64
 ·have d1:decide ((64:Int)<(p.lo.length:Int))=false:=decide_eq_false (by omega);by_cases g2:p.hi.length=p.lo.length
  ·have d2:((p.hi.length:Int) !=(p.lo.length:Int))=false:=by rw[g2];simp
   by_cases g3:p.c.length=p.lo.length
   ·have d3:((p.c.length:Int) !=(p.lo.length:Int))=false:=by rw[g3];simp
    by_cases g4:p.a.length=p.b.length
    ·have d4:((p.a.length:Int) !=(p.b.length:Int))=false:=by rw[g4];simp
     have HE:=ZH (HE.out g4);have hab:p.a.length≤p.b.length:=by omega
     have HE:=ZH (HE.out.trans (by rw[decide_eq_true g1,Bool.true_and,decide_eq_true g2,Bool.true_and,decide_eq_true g3,Bool.true_and]));have hh1:p.hi.length≤p.lo.length:=by omega
     have hh2:p.lo.length≤p.hi.length:=by omega
     clear g2 g3 g4 HE0;by_cases g5:p.a.length≤160
     ·have d5:decide ((160:Int)<(p.a.length:Int))=false:=decide_eq_false (by omega);have HE:=ZH (HE.out.trans (by rw[decide_eq_true g5,Bool.true_and]));have hq1:=HQ0;have hb1:=ZH (HB0.out:Blk _ w.heap.size tyR (pgC m p));have ha160:p.a.length≤160:=g5;clear g5;obtain⟨N1,hN1⟩:∃N1,nearL 1048576 p.lo=N1:=⟨_,rfl⟩;obtain⟨N2,hN2⟩:∃N2,nearL 1048576 p.hi=N2:=⟨_,rfl⟩;obtain⟨N3,hN3⟩:∃N3,nearL 1048576 p.c=N3:=⟨_,rfl⟩;have C1:Hid (∀w',Below w.heap.size w w'→Calls Tryz.prog 33 #[.slice m.lo.1 p.lo.length m.lo.2] w' fun e w2=>e= .returned (.bool N1)∧Below w'.heap.size w' w2):=fun w' q=>by rw[←hN1];exact rwithin_any (HP.out.lo.below q) zlo
      have C2:Hid (∀w',Below w.heap.size w w'→Calls Tryz.prog 33 #[.slice m.hi.1 p.hi.length m.hi.2] w' fun e w2=>e= .returned (.bool N2)∧Below w'.heap.size w' w2):=fun w' q=>by rw[←hN2];exact rwithin_any (HP.out.hi.below q) zhi
      have C3:Hid (∀w',Below w.heap.size w w'→Calls Tryz.prog 33 #[.slice m.c.1 p.c.length m.c.2] w' fun e w2=>e= .returned (.bool N3)∧Below w'.heap.size w' w2):=fun w' q=>by rw[←hN3];exact rwithin_any (HP.out.c.below q) zc
      rw[hN1,hN2,hN3]at HE;clear hN1 hN2 hN3;go_wp2_with fail;refine(C1.out _ hq1.out).mono ?_;rintro e w1 ⟨rfl,q⟩;have hq1:=ZH (below_trans hq1.out q);have hb1:=ZH (hb1.out.below q ZL);obtain⟨p0,p1,p2,p3,p4⟩:=hb1.out.fiveP;clear q;cases N1 with
      |false=>
       have HC:Hid (R=false):=HE.out;go_wp2_with fail;exact bodyPost_ret (v:= .bool false) (by simp[results,Tryz.results13,go_sem]) rfl ⟨by rw[HC.out],hq1.out⟩
      |true=>
       go_wp2_with fail;refine(C2.out _ hq1.out).mono ?_;rintro e w1 ⟨rfl,q⟩;have hq1:=ZH (below_trans hq1.out q);have hb1:=ZH (hb1.out.below q ZL);obtain⟨p0,p1,p2,p3,p4⟩:=hb1.out.fiveP;clear q;cases N2 with
       |false=>
        have HC:Hid (R=false):=HE.out;go_wp2_with fail;exact bodyPost_ret (v:= .bool false) (by simp[results,Tryz.results13,go_sem]) rfl ⟨by rw[HC.out],hq1.out⟩
       |true=>
        go_wp2_with fail;refine(C3.out _ hq1.out).mono ?_;rintro e w1 ⟨rfl,q⟩;have hq1:=ZH (below_trans hq1.out q);have hb1:=ZH (hb1.out.below q ZL);obtain⟨p0,p1,p2,p3,p4⟩:=hb1.out.fiveP;clear q;cases N3 with
        |false=>
         have HC:Hid (R=false):=HE.out;go_wp2_with fail;exact bodyPost_ret (v:= .bool false) (by simp[results,Tryz.results13,go_sem]) rfl ⟨by rw[HC.out],hq1.out⟩
        |true=>
         have HE0:Hid (R=(endsL (p.lo.drop 0) (p.hi.drop 0)&&rowsB p.lo.length p.a p.b)):=HE.out;clear HE C1 C2 C3;go_wp2_with fail;go_loopg [4] p.lo.length (fun k pp wr=>∃j,k=p.lo.length-j∧j≤p.lo.length∧pp= .int .i64 (j:Nat)∧Hid (R=(endsL (p.lo.drop j) (p.hi.drop j)&&rowsB p.lo.length p.a p.b))∧Hid (Below w.heap.size w wr)∧Blk wr w.heap.size tyR (pgC m p))
         case atStart=>exact⟨0,rfl,Nat.zero_le _,rfl,HE0.out,hq1.out,hb1.out⟩
         case round=>
          clear HE0 hq1 hb1 p0 p1 p2 p3 p4;obtain⟨j,hk,hj,rfl,HL,hq1,hpb⟩:=hrel;have HPB:=ZH hpb;obtain⟨p0,p1,p2,p3,p4⟩:=hpb.fiveP;by_cases hlt:j<p.lo.length
          ·have d1:decide ((j:Int)<(p.lo.length:Int))=true:=decide_eq_true (by omega);have hlt2:j<p.hi.length:=by omega
           obtain⟨gl,ol,hA0,c0⟩:=(HP.out.lo.below hq1.out) j hlt;obtain⟨gh,oh,hA1,c1⟩:=(HP.out.hi.below hq1.out) j hlt2;replace c0:wr.cell? ⟨gl,ol+j,none⟩=some (.int .i64 (p.lo.getD j 0)):=c0;replace c1:wr.cell? ⟨gh,oh+j,none⟩=some (.int .i64 (p.hi.getD j 0)):=c1;rw[hA0]at p0;rw[hA1]at p1;have P0:=Lk.of p0;have P1:=Lk.of p1;have C0:=Lk.of c0;have C1:=Lk.of c1;have HC:Hid (R=((decide (p.lo.getD j 0≤p.hi.getD j 0)&&endsL (p.lo.drop (j+1)) (p.hi.drop (j+1)))&&rowsB p.lo.length p.a p.b)):=by
            show _=_;rw[HL.out,drop_at (z:=0) hlt,drop_at (z:=0) hlt2,endsL_step]
           clear hA0 hA1 p0 p1 p2 p3 p4 c0 c1 hpb HL;generalize p.lo.getD j 0=zl at*;generalize p.hi.getD j 0=zh at*;have M:=Mem.start wr;go_upto_region 7 with fail;refine region_st (n:=11) (frame:= ?frame1) (fun jK=>[.val (.fix (.pointer (some ⟨w.heap.size,0,none⟩))),.val (.fix (.slice (some ⟨gl,ol,none⟩) p.lo.length m.lo.2)),.val (.fix (.int .i64 (j:Nat))),.val (.fix (.pointer (some ⟨gl,ol+j,none⟩))),.val (.fix (.int .i64 zl)),.val (.fix (.pointer (some ⟨w.heap.size,1,none⟩))),.val (.fix (.slice (some ⟨gh,oh,none⟩) p.hi.length m.hi.2)),.val (.fix (.int .i64 (j:Nat))),.val (.fix (.pointer (some ⟨gh,oh+j,none⟩))),.val (.fix (.int .i64 zh)),.val (.fix (.bool (decide (zh<zl))))].getD jK .none) [] (by kernel_rfl) (by kernel_rfl) (by kernel_rfl) rfl M (fun _ h=>by cases h) (fun _ h=>by cases h) ?_ ?_ ?_
           case refine_1=>
            intro s;simp only[fr,Act.put,zA,zB,zC,zD,zE,zF,Nat.reduceAdd];rfl
           case refine_2=>
            refine SC 0 1 rfl ?_ (SC 1 2 rfl ?_ (SC 2 3 rfl ?_ (SC 3 4 rfl ?_ (SC 4 5 rfl ?_ (SC 5 6 rfl ?_ (SC 6 7 rfl ?_ (SC 7 8 rfl ?_ (SC 8 9 rfl ?_ (SC 9 10 rfl ?_ (SC 10 11 rfl ?_ Steps.nil))))))))));all_goals (intro L s w9 hN hU hi hS K hK;dsimp only at hK⊢;simp only[Act.put,zD,zE,zF]at hK)
            ·go_simp;exact hS.o hK
            ·have e0:=hS.f hN 0;simp only[e0]at hK⊢;have u0:=P0 _ hS.mem.bel;go_simp;exact hS.o hK
            ·go_simp;exact hS.o hK
            ·have e1:=hS.f hN 1;simp only[e1]at hK⊢;have e2:=hS.f hN 2;simp only[e2]at hK⊢;go_simp;exact hS.o hK
            ·have e3:=hS.f hN 3;simp only[e3]at hK⊢;have u0:=C0 _ hS.mem.bel;go_simp;exact hS.o hK
            ·go_simp;exact hS.o hK
            ·have e5:=hS.f hN 5;simp only[e5]at hK⊢;have u0:=P1 _ hS.mem.bel;go_simp;exact hS.o hK
            ·go_simp;exact hS.o hK
            ·have e6:=hS.f hN 6;simp only[e6]at hK⊢;have e7:=hS.f hN 7;simp only[e7]at hK⊢;go_simp;exact hS.o hK
            ·have e8:=hS.f hN 8;simp only[e8]at hK⊢;have u0:=C1 _ hS.mem.bel;go_simp;exact hS.o hK
            ·have e4:=hS.f hN 4;simp only[e4]at hK⊢;have e9:=hS.f hN 9;simp only[e9]at hK⊢;go_simp;exact hS.o hK
           intro L s w9 hall hS;have e10:=hS.fx 10 rfl rfl (hall 10 (by decide));have q3:=hS.mem.bel;simp only[e10];have HQ3:=ZH (below_trans hq1.out q3);have HB3:=ZH (HPB.out.below q3 ZL);clear hS hall e10 q3 P0 P1 C0 C1;by_cases hzz:zh<zl
           ·have HC2:Hid (R=false):=HC.out.trans (by rw[decide_eq_false (show ¬zl≤zh by omega)];rfl);rw[decide_eq_true hzz];clear HC;go_wp2_with fail;exact bodyPost_ret (v:= .bool false) (by simp[results,Tryz.results13,go_sem]) rfl ⟨by rw[HC2.out],HQ3.out⟩
           ·have HC2:Hid (R=(endsL (p.lo.drop (j+1)) (p.hi.drop (j+1))&&rowsB p.lo.length p.a p.b)):=HC.out.trans (by rw[decide_eq_true (show zl≤zh by omega),Bool.true_and]);rw[decide_eq_false hzz];clear HC;go_wp2_with fail;go_roundg (p.lo.length-(j+1))
            case measure=>omega
            case rel=>exact⟨j+1,rfl,by omega,by simp,HC2.out,HQ3.out,HB3.out⟩
          ·have d1:decide ((j:Int)<(p.lo.length:Int))=false:=decide_eq_false (by omega);have HE1:Hid (R=rowsB p.lo.length (p.a.drop 0) (p.b.drop 0)):=by
            show _=_;rw[HL.out,drop_none hlt];rfl
           clear HL;obtain⟨W0,rfl⟩:∃W0,W0=wr:=⟨_,rfl⟩;go_wp2_with fail;go_loopg [5] p.a.length (fun k pp wr=>∃i,k=p.a.length-i∧i≤p.a.length∧pp= .int .i64 (i:Nat)∧Hid (R=rowsB p.lo.length (p.a.drop i) (p.b.drop i))∧Hid (Below w.heap.size w wr)∧Blk wr w.heap.size tyR (pgC m p))
           case atStart=>exact⟨0,rfl,Nat.zero_le _,rfl,HE1.out,hq1.out,HPB.out⟩
           case round=>
            clear HE1 p0 p1 p2 p3 p4 d1 hlt hpb;obtain⟨i,hk2,hi,rfl,HL,hq2,hpb⟩:=hrel;have HPB2:=ZH hpb;obtain⟨p0,p1,p2,p3,p4⟩:=hpb.fiveP;by_cases hlt:i<p.a.length
            ·have d1:decide ((i:Int)<(p.a.length:Int))=true:=decide_eq_true (by omega);have hltb:i<p.b.length:=by omega
             obtain⟨ga,oa,hA2,ci⟩:=(HP.out.ap.below hq2.out) i hlt;replace ci:wr.cell? ⟨ga,oa+i,none⟩=some (.slice (m.rs.getD i (none,0)).1 (p.a.getD i []).length (m.rs.getD i (none,0)).2):=ci;obtain⟨gb,ob,hA3,bi⟩:=(HP.out.b.below hq2.out) i hltb;replace bi:wr.cell? ⟨gb,ob+i,none⟩=some (.int .i64 (p.b.getD i 0)):=bi;rw[hA2]at p2;rw[hA3]at p3;have BI:=Lk.of bi;have P3:=Lk.of p3;have CI:=Lk.of ci;have P2:=Lk.of p2;have har:=(HP.out.below hq2.out).ar i hlt;have hzr:=HZ.out.r i hlt;have HC:Hid (R=((decide ((p.a.getD i []).length=p.lo.length)&&(nearL 1048576 (p.a.getD i [])&&(decide (-1099511627776≤p.b.getD i 0)&&decide (p.b.getD i 0≤1099511627776))))&&rowsB p.lo.length (p.a.drop (i+1)) (p.b.drop (i+1)))):=by
              show _=_;rw[HL.out,drop_at (z:=[]) hlt,drop_at (z:=0) hltb,rowsB_step]
             have HN:=ZH (rwithin_any (c:=(m.rs.getD i (none,0)).2) har hzr);clear HL har hA2 hA3 p0 p1 p4 hpb;generalize p.a.getD i []=row at*;generalize (m.rs.getD i (none,0)).1=RA at*;generalize (m.rs.getD i (none,0)).2=cR at*;generalize p.b.getD i 0=zz at*;by_cases hrl:row.length=p.lo.length
             ·have d2:((row.length:Int) !=(p.lo.length:Int))=false:=by rw[hrl];simp
              have HC:=ZH (HC.out.trans (by rw[decide_eq_true hrl,Bool.true_and]));clear hrl;generalize nearL 1048576 row=NR at*;go_wp2_with fail;refine HN.out.mono ?_;rintro e w3 ⟨rfl,q3⟩;have HQ3:=ZH (below_trans hq2.out q3);have HB3:=ZH (HPB2.out.below q3 ZL);have p3:=P3 _ q3;have bi:=BI _ q3;clear q3 P3 BI CI P2;cases NR with
              |false=>
               have HC2:Hid (R=false):=HC.out;clear HC;go_wp2_with fail;exact bodyPost_ret (v:= .bool false) (by simp[results,Tryz.results13,go_sem]) rfl ⟨by rw[HC2.out],HQ3.out⟩
              |true=>
               by_cases h1:zz< -1099511627776
               ·have d5:decide (zz< -1099511627776)=true:=decide_eq_true h1;have HC2:Hid (R=false):=HC.out.trans (by rw[decide_eq_false (show ¬ -1099511627776≤zz by omega)];rfl);clear HC;go_wp2_with fail;exact bodyPost_ret (v:= .bool false) (by simp[results,Tryz.results13,go_sem]) rfl ⟨by rw[HC2.out],HQ3.out⟩
               ·have d5:decide (zz< -1099511627776)=false:=decide_eq_false h1;by_cases h2:1099511627776<zz
                ·have d6:decide (1099511627776<zz)=true:=decide_eq_true h2;have HC2:Hid (R=false):=HC.out.trans (by rw[decide_eq_false (show ¬zz≤1099511627776 by omega),Bool.and_false];rfl);clear HC;go_wp2_with fail;exact bodyPost_ret (v:= .bool false) (by simp[results,Tryz.results13,go_sem]) rfl ⟨by rw[HC2.out],HQ3.out⟩
                ·have d6:decide (1099511627776<zz)=false:=decide_eq_false h2;have HC2:Hid (R=rowsB p.lo.length (p.a.drop (i+1)) (p.b.drop (i+1))):=HC.out.trans (by rw[decide_eq_true (show-1099511627776≤zz by omega),decide_eq_true (show zz≤1099511627776 by omega)];rfl);clear HC;go_wp2_with fail;go_roundg (p.a.length-(i+1))
                 case measure=>omega
                 case rel=>exact⟨i+1,rfl,by omega,by simp,HC2.out,HQ3.out,HB3.out⟩
             ·have d2:((row.length:Int) !=(p.lo.length:Int))=true:=ne_boolK (by omega);have HC2:Hid (R=false):=HC.out.trans (by rw[decide_eq_false hrl];rfl);clear HC HN;go_wp2_with fail;exact bodyPost_ret (v:= .bool false) (by simp[results,Tryz.results13,go_sem]) rfl ⟨by rw[HC2.out],hq2.out⟩
            ·have d1:decide ((i:Int)<(p.a.length:Int))=false:=decide_eq_false (by omega);have HC2:Hid (R=true):=by
              show _=_;rw[HL.out,drop_none hlt];rfl
             clear HL;go_wp2_with fail;exact bodyPost_ret (v:= .bool true) (by simp[results,Tryz.results13,go_sem]) rfl ⟨by rw[HC2.out],hq2.out⟩
     ·have d5:decide ((160:Int)<(p.a.length:Int))=true:=decide_eq_true (by omega);have HC:Hid (R=false):=HE.out.trans (by rw[decide_eq_false g5];rfl);go_wp2_with fail;exact bodyPost_ret (v:= .bool false) (by simp[results,Tryz.results13,go_sem]) rfl ⟨by rw[HC.out],HQ0.out⟩
    ·have d4:((p.a.length:Int) !=(p.b.length:Int))=true:=ne_boolK (by omega);have HC:Hid (R=false):=HE0.out.trans (by rw[decide_eq_true g1,decide_eq_true g2,decide_eq_true g3,decide_eq_false g4];rfl);go_wp2_with fail;exact bodyPost_ret (v:= .bool false) (by simp[results,Tryz.results13,go_sem]) rfl ⟨by rw[HC.out],HQ0.out⟩
   ·have d3:((p.c.length:Int) !=(p.lo.length:Int))=true:=ne_boolK (by omega);have HC:Hid (R=false):=HE0.out.trans (by rw[decide_eq_true g1,decide_eq_true g2,decide_eq_false g3];rfl);go_wp2_with fail;exact bodyPost_ret (v:= .bool false) (by simp[results,Tryz.results13,go_sem]) rfl ⟨by rw[HC.out],HQ0.out⟩
  ·have d2:((p.hi.length:Int) !=(p.lo.length:Int))=true:=ne_boolK (by omega);have HC:Hid (R=false):=HE0.out.trans (by rw[decide_eq_true g1,decide_eq_false g2];rfl);go_wp2_with fail;exact bodyPost_ret (v:= .bool false) (by simp[results,Tryz.results13,go_sem]) rfl ⟨by rw[HC.out],HQ0.out⟩
 ·have d1:decide ((64:Int)<(p.lo.length:Int))=true:=decide_eq_true (by omega);have HC:Hid (R=false):=HE0.out.trans (by rw[decide_eq_false g1];rfl);go_wp2_with fail;exact bodyPost_ret (v:= .bool false) (by simp[results,Tryz.results13,go_sem]) rfl ⟨by rw[HC.out],HQ0.out⟩
def Sh.sm (S:Sr):Sh:=⟨fun v w=>∃A c B d,v= .agg #[.bool S.n,.slice A S.xs.length c,.bool S.m,.slice B S.ys.length d,.bool S.big]∧Rd w A c S.xs∧Rd w B d S.ys,
 fun⟨A,c,B,d,h1,h2,h3⟩ q=>⟨A,c,B,d,h1,h2.below q ZL,h3.below q ZL⟩,fun⟨A,c,B,d,h1,h2,h3⟩ hb hg=>⟨A,c,B,d,h1,h2.boxed hb hg,h3.boxed hb hg⟩⟩
def Ct.sm (S:Sr):Ct:=⟨fun v w=>∃A c B d,v= #[.bool S.n,.slice A S.xs.length c,.bool S.m,.slice B S.ys.length d,.bool S.big]∧Rd w A c S.xs∧Rd w B d S.ys,
 fun⟨A,c,B,d,h1,h2,h3⟩ q=>⟨A,c,B,d,h1,h2.below q ZL,h3.below q ZL⟩,fun⟨A,c,B,d,h1,h2,h3⟩ hb hg=>⟨A,c,B,d,h1,h2.boxed hb hg,h3.boxed hb hg⟩⟩
theorem ptheirs_any {w:World}{m:Pa}{p:Pg}:Calls Tryz.prog 12 #[.agg (pgC m p)] w fun e w'=>e= .returned (.agg (pgC m p))∧Below w.heap.size w w':=by
 have M:=((Mem.start w).new tyR (pgC m p)).newAt (g:=w.heap.size+1) (by simp) tyP #[.slice none 0 0,.slice none 0 0,.slice none 0 0,.slice none 0 0,.slice none 0 0];obtain⟨p0,p1,p2,p3,p4⟩:=(M.k (i:=1) rfl).fiveP;have hinf:(Tryz.prog.info? tyP).map (·.size)=some 5:=by kernel_rfl
 go_enter Tryz.func12,Tryz.ntmps12;go_wp2_with ((with_reducible refine st_ ?_);refine wp_put2 _ _ (M.k (i:=0) rfl) rfl rfl rfl rfl hinf rfl rfl ?_;intro w4 b4 g4;replace M:=M.rowAt (i:=0) rfl (by omega) (by simp<;>omega) rfl b4 g4;obtain⟨f0,f1,f2,f3,f4⟩:=Blk.fiveP b4);exact bodyPost_ret (v:= .agg (pgC m p)) (by simp[results,Tryz.results12,go_sem,f0,f1,f2,f3,f4]) rfl ⟨rfl,M.bel⟩
def shortA (a:List (List Int)):Bool:=a.all fun r=>decide (r.length≤200)
theorem shortA_step (r:List Int)(a:List (List Int)):shortA (r::a)=(decide (r.length≤200)&&shortA a):=rfl
def fitsPg (p:Pg):Bool:=decide (p.lo.length≤200)&&(decide (p.hi.length≤200)&&(decide (p.c.length≤200)&&(decide (p.a.length≤200)&&(decide (p.b.length≤200)&&shortA p.a))))
theorem sz_fits {p:Pg}(h:fitsPg p=true):PgSz p:=by
 unfold fitsPg at h;simp only[Bool.and_eq_true,decide_eq_true_eq]at h;obtain⟨h1,h2,h3,h4,h5,h6⟩:=h;refine⟨by omega,by omega,by omega,by omega,by omega,fun i hi=> ?_⟩;have:=List.all_eq_true.1 h6 (p.a.getD i []) (by rw[List.getD_eq_getElem?_getD,List.getElem?_eq_getElem hi];exact List.getElem_mem hi);rw[decide_eq_true_eq]at this;omega
theorem pfits_any {w:World}{m:Pa}{p:Pg}(hp:PgAt w m p):Calls Tryz.prog 19 #[.agg (pgC m p)] w fun e w'=>e= .returned (.bool (fitsPg p))∧Below w.heap.size w w':=by
 have HP:=ZH hp;obtain⟨R,hR⟩:∃R,fitsPg p=R:=⟨_,rfl⟩;have HE:Hid (R=fitsPg p):=hR.symm;rw[hR];unfold fitsPg at HE;have M:=(Mem.start w).new tyR (pgC m p);obtain⟨p0,p1,p2,p3,p4⟩:=(M.k (i:=0) rfl).fiveP;clear hR hp;go_enter Tryz.func19,Tryz.ntmps19;by_cases g1:p.lo.length≤200
 ·have d1:decide ((200:Int)<(p.lo.length:Int))=false:=decide_eq_false (by omega);rw[decide_eq_true g1,Bool.true_and]at HE;by_cases g2:p.hi.length≤200
  ·have d2:decide ((200:Int)<(p.hi.length:Int))=false:=decide_eq_false (by omega);rw[decide_eq_true g2,Bool.true_and]at HE;by_cases g3:p.c.length≤200
   ·have d3:decide ((200:Int)<(p.c.length:Int))=false:=decide_eq_false (by omega);rw[decide_eq_true g3,Bool.true_and]at HE;by_cases g4:p.a.length≤200
    ·have d4:decide ((200:Int)<(p.a.length:Int))=false:=decide_eq_false (by omega);rw[decide_eq_true g4,Bool.true_and]at HE;by_cases g5:p.b.length≤200
     ·have d5:decide ((200:Int)<(p.b.length:Int))=false:=decide_eq_false (by omega);rw[decide_eq_true g5,Bool.true_and]at HE;have HE0:Hid (R=shortA (p.a.drop 0)):=HE.out;have HM:=ZH M;clear HE M;go_wp2_with fail;go_loopg [35] p.a.length (fun k pp wr=>∃i,k=p.a.length-i∧i≤p.a.length∧pp= .int .i64 (i:Nat)∧Hid (R=shortA (p.a.drop i))∧Mem w wr [(w.heap.size,tyR,pgC m p)] [])
      case atStart=>exact⟨0,rfl,Nat.zero_le _,rfl,HE0.out,HM.out⟩
      case round=>
       clear HE0 HM p0 p1 p2 p3 p4 d1 d2 d3 d5;obtain⟨i,hk,hi,rfl,HL,M⟩:=hrel;obtain⟨p0,p1,p2,p3,p4⟩:=(M.k (i:=0) rfl).fiveP;by_cases hlt:i<p.a.length
       ·have d1:decide ((i:Int)<(p.a.length:Int))=true:=decide_eq_true (by omega);obtain⟨ga,oa,hA2,ci⟩:=(HP.out.ap.below M.bel) i hlt;replace ci:wr.cell? ⟨ga,oa+i,none⟩=some (.slice (m.rs.getD i (none,0)).1 (p.a.getD i []).length (m.rs.getD i (none,0)).2):=ci;rw[hA2]at p2;have HC:Hid (R=(decide ((p.a.getD i []).length≤200)&&shortA (p.a.drop (i+1)))):=by
         show _=_;rw[HL.out,drop_at (z:=[]) hlt,shortA_step]
        have HM:=ZH M;clear HL hA2 M;generalize p.a.getD i []=row at*;generalize (m.rs.getD i (none,0)).1=RA at*;generalize (m.rs.getD i (none,0)).2=cR at*;by_cases hrl:row.length≤200
        ·have d2:decide ((200:Int)<(row.length:Int))=false:=decide_eq_false (by omega);have HC2:Hid (R=shortA (p.a.drop (i+1))):=HC.out.trans (by rw[decide_eq_true hrl,Bool.true_and]);clear HC;go_wp2_with fail;go_roundg (p.a.length-(i+1))
         case measure=>omega
         case rel=>exact⟨i+1,rfl,by omega,by simp,HC2.out,HM.out⟩
        ·have d2:decide ((200:Int)<(row.length:Int))=true:=decide_eq_true (by omega);have HC2:Hid (R=false):=HC.out.trans (by rw[decide_eq_false hrl];rfl);clear HC;go_wp2_with fail;exact bodyPost_ret (v:= .bool false) (by simp[results,Tryz.results19,go_sem]) rfl ⟨by rw[HC2.out],HM.out.bel⟩
       ·have d1:decide ((i:Int)<(p.a.length:Int))=false:=decide_eq_false (by omega);have HC2:Hid (R=true):=by
         show _=_;rw[HL.out,drop_none hlt];rfl
        have HM:=ZH M;clear HL M;go_wp2_with fail;exact bodyPost_ret (v:= .bool true) (by simp[results,Tryz.results19,go_sem]) rfl ⟨by rw[HC2.out],HM.out.bel⟩
     ·have d5:decide ((200:Int)<(p.b.length:Int))=true:=decide_eq_true (by omega);rw[decide_eq_false g5]at HE;have HC:Hid (R=false):=HE.out;go_wp2_with fail;exact bodyPost_ret (v:= .bool false) (by simp[results,Tryz.results19,go_sem]) rfl ⟨by rw[HC.out],M.bel⟩
    ·have d4:decide ((200:Int)<(p.a.length:Int))=true:=decide_eq_true (by omega);rw[decide_eq_false g4]at HE;have HC:Hid (R=false):=HE.out;go_wp2_with fail;exact bodyPost_ret (v:= .bool false) (by simp[results,Tryz.results19,go_sem]) rfl ⟨by rw[HC.out],M.bel⟩
   ·have d3:decide ((200:Int)<(p.c.length:Int))=true:=decide_eq_true (by omega);rw[decide_eq_false g3]at HE;have HC:Hid (R=false):=HE.out;go_wp2_with fail;exact bodyPost_ret (v:= .bool false) (by simp[results,Tryz.results19,go_sem]) rfl ⟨by rw[HC.out],M.bel⟩
  ·have d2:decide ((200:Int)<(p.hi.length:Int))=true:=decide_eq_true (by omega);rw[decide_eq_false g2]at HE;have HC:Hid (R=false):=HE.out;go_wp2_with fail;exact bodyPost_ret (v:= .bool false) (by simp[results,Tryz.results19,go_sem]) rfl ⟨by rw[HC.out],M.bel⟩
 ·have d1:decide ((200:Int)<(p.lo.length:Int))=true:=decide_eq_true (by omega);rw[decide_eq_false g1]at HE;have HC:Hid (R=false):=HE.out;go_wp2_with fail;exact bodyPost_ret (v:= .bool false) (by simp[results,Tryz.results19,go_sem]) rfl ⟨by rw[HC.out],M.bel⟩
end Go.Proofs.YtpnmcacndjkfaaaGreat

import Derived.Test.YtecfcjdgmpopjaaGreatGi
set_option maxHeartbeats 16000000
set_option maxRecDepth 100000
set_option linter.unusedSimpArgs false
set_option linter.unusedVariables false
namespace Go.Proofs.YtecfcjdgmpopjaaGreat
open Go.RowKit Num
theorem rwithin8 {z:Int}{b:Bool}(h:withinB z=b){w:World}:Calls Tryz.prog 66 #[.int .i64 z] w fun e w'=>e= .returned (.bool b)∧Below w.heap.size w w':=by
 unfold withinB at h;go_enter Tryz.func66,Tryz.ntmps66;by_cases h1: -1048576≤z
 ·have d1:decide (-1048576≤z)=true:=dT h1;rw[d1,Bool.true_and]at h;by_cases h2:z≤1048576
  ·have d2:decide (z≤1048576)=true:=dT h2;rw[d2]at h;subst h;go_wp2_with fail;exact bodyPost_ret (v:= .bool true) (by simp[results,Tryz.results66,go_sem]) rfl ⟨rfl,Below.refl _ _⟩
  ·have d2:decide (z≤1048576)=false:=dF h2;rw[d2]at h;subst h;go_wp2_with fail;exact bodyPost_ret (v:= .bool false) (by simp[results,Tryz.results66,go_sem]) rfl ⟨rfl,Below.refl _ _⟩
 ·have d1:decide (-1048576≤z)=false:=dF h1;rw[d1,Bool.false_and]at h;subst h;go_wp2_with fail;exact bodyPost_ret (v:= .bool false) (by simp[results,Tryz.results66,go_sem]) rfl ⟨rfl,Below.refl _ _⟩
theorem rdom_any {w:World}{A:Option Addr}{c:Nat}{l:List (Int×Int)}(h:RRow w A l)(hs:l.length≤1000000):Calls Tryz.prog 64 #[.slice A l.length c] w fun e w'=>e= .returned (.bool (domB l))∧Below w.heap.size w w':=by
 have hinf:(Tryz.prog.info? 65).map (·.size)=some 2:=by kernel_rfl
 have HI:=ZH h;obtain⟨R,hR⟩:∃R,setB l=R:=⟨_,rfl⟩;have HR:Hid (R=rangesB (prevR l 0) (l.drop 0)):=hR.symm;obtain⟨T,hT⟩:∃T,domB l=T:=⟨_,rfl⟩;have HF:Hid (R=false→T=false):=fun e=>by rw[←hT];exact dom_f (hR.trans e)
 have HT:Hid (R=true→T=decide (1≤(l.length:Int))):=fun e=>by rw[←hT];exact dom_t (hR.trans e)
 rw[hT];clear hT;clear hR h;go_enter Tryz.func64,Tryz.ntmps64;go_wp2_with fail;go_loopg [3] l.length (fun k p wr=>∃j,k=l.length-j∧j≤l.length∧p= .int .i64 (j:Nat)∧Hid (R=rangesB (prevR l j) (l.drop j))∧Hid (∀v,prevR l j=some v→withinB v=true)∧Hid (Below w.heap.size w wr))
 case atStart=>exact⟨0,rfl,Nat.zero_le _,rfl,HR.out,(fun v e=>by cases e),Below.refl _ _⟩
 case round=>
  clear HR;obtain⟨j,hk,hj,rfl,HL,HW,HQ⟩:=hrel;by_cases hlt:j<l.length
  ·have d1:decide ((j:Int)<(l.length:Int))=true:=dT (by omega);have HC:Hid (R=(rangeB (prevR l j) (l.getD j (0,0))&&rangesB (prevR l (j+1)) (l.drop (j+1)))):=HL.out.trans (ranges_step hlt);have HX:=ZH (HI.out.below HQ.out);obtain⟨g,o,rfl,cl,ch⟩:=HX.out.at hlt;obtain⟨r,hr⟩:∃r,l.getD j (0,0)=r:=⟨_,rfl⟩;rw[hr]at cl ch HC;obtain⟨lo,hi⟩:=r;have CL:Lk wr g (o+j*2) (.int .i64 lo):=Lk.of cl;have CH:Lk wr g (o+j*2+1) (.int .i64 hi):=Lk.of ch;have M2:=Mem.start wr;have hj0:((l.getD j (0,0)).2)=hi:=by rw[hr]
   have HJ:=ZH hj0;clear HL hr hj0 cl ch;go_upto_region 4 with fail;by_cases h1:hi<lo
   ·have e1:decide (hi<lo)=true:=dT h1;refine region_st (n:=48) (frame:= ?frame1) (fun jK=>[kF (.slice (some ⟨g,o,none⟩) l.length c),kI ((j:Nat)),kP g (o+(j)*2),kP g (o+(j)*2),kI lo,kF (.slice (some ⟨g,o,none⟩) l.length c),kI ((j:Nat)),kP g (o+(j)*2),kP g (o+(j)*2+1),kI hi,kB true,kB true,.none,.none,.none,.none,.none,.none,.none,kB true,kB true,.none,.none,.none,.none,.none,.none,.none,kB true,kB true,.none,.none,kF (undef),.none,.none,.none,.none,.none,.none,.none,.none,.none,.none,.none,.none,.none,.none,kB true].getD jK .none) [] (by kernel_rfl) (by kernel_rfl) (by kernel_rfl) rfl M2 (fun _ h=>by cases h) (fun _ h=>by cases h) ?_ ?_ ?_
    case refine_1=>
     intro s;simp only[fr,Act.put,zA,zB,zC,zD,zE,zF,Nat.reduceAdd];rfl
    case refine_2=>
     iterate 48 (refine SN ?_ ?_;rotate_left)
     exact Steps.nil;all_goals (intro L s w9 hN hU hi hS K hK;dsimp only at hK⊢;simp only[Act.put,zD,zE,zF]at hK)
     iterate 2 (go_simp;exact hS.o hK)
     ·simp only[hS.f hN 0,hS.f hN 1]at hK⊢;go_simp;exact hS.o hK
     ·simp only[hS.f hN 2]at hK⊢;go_simp;exact hS.o hK
     ·simp only[hS.f hN 3]at hK⊢;have u0:=CL _ hS.mem.bel;go_simp;exact hS.o hK
     iterate 2 (go_simp;exact hS.o hK)
     ·simp only[hS.f hN 5,hS.f hN 6]at hK⊢;go_simp;exact hS.o hK
     ·simp only[hS.f hN 7]at hK⊢;go_simp;exact hS.o hK
     ·simp only[hS.f hN 8]at hK⊢;have u0:=CH _ hS.mem.bel;go_simp;exact hS.o hK
     ·simp only[hS.f hN 4,hS.f hN 9]at hK⊢;go_simp;exact hS.o hK
     ·simp only[hS.f hN 10]at hK⊢;go_simp;exact hS.o hK
     iterate 7 (simp only[hS.f hN 11]at hK⊢;go_simp;exact hS.u hK)
     ·simp only[hS.f hN 11]at hK⊢;go_simp;exact hS.o hK
     ·simp only[hS.f hN 19]at hK⊢;go_simp;exact hS.o hK
     iterate 7 (simp only[hS.f hN 20]at hK⊢;go_simp;exact hS.u hK)
     ·simp only[hS.f hN 20]at hK⊢;go_simp;exact hS.o hK
     ·simp only[hS.f hN 28]at hK⊢;go_simp;exact hS.o hK
     iterate 2 (simp only[hS.f hN 29]at hK⊢;go_simp;exact hS.u hK)
     ·simp only[hS.f hN 29]at hK⊢;go_simp;exact hK.out undef _ (hS.v0 rfl rfl rfl)
     iterate 13 (simp only[hS.f hN 32]at hK⊢;go_simp;exact hS.u hK)
     ·simp only[hS.f hN 29]at hK⊢;go_simp;exact hS.u hK
     ·simp only[hS.f hN 29]at hK⊢;go_simp;exact hS.o hK
    intro L s w9 hall hS;have e47:=hS.fx 47 rfl rfl (hall 47 (by decide));have q3:=hS.mem.bel;simp only[e47];have HQ3:=ZH (bT HQ.out q3);clear hS hall e47 q3;have HC2:Hid (R=false):=HC.out.trans (by rw[rangeB_1 (r:=(lo,hi)) h1];rfl);clear HC;go_wp2_with fail;exact bodyPost_ret (v:= .bool false) (by simp[results,Tryz.results64,go_sem]) rfl ⟨by rw[HF.out HC2.out],HQ3.out⟩
   ·have e1:decide (hi<lo)=false:=dF h1;cases h2:withinB lo with
    |false=>
     refine region_st (n:=48) (frame:= ?frame2) (fun jK=>[kF (.slice (some ⟨g,o,none⟩) l.length c),kI ((j:Nat)),kP g (o+(j)*2),kP g (o+(j)*2),kI lo,kF (.slice (some ⟨g,o,none⟩) l.length c),kI ((j:Nat)),kP g (o+(j)*2),kP g (o+(j)*2+1),kI hi,kB false,kB false,kF (.slice (some ⟨g,o,none⟩) l.length c),kI ((j:Nat)),kP g (o+(j)*2),kP g (o+(j)*2),kI lo,kB false,kB true,kB true,kB true,.none,.none,.none,.none,.none,.none,.none,kB true,kB true,.none,.none,kF (undef),.none,.none,.none,.none,.none,.none,.none,.none,.none,.none,.none,.none,.none,.none,kB true].getD jK .none) [] (by kernel_rfl) (by kernel_rfl) (by kernel_rfl) rfl M2 (fun _ h=>by cases h) (fun _ h=>by cases h) ?_ ?_ ?_
     case refine_1=>
      intro s;simp only[fr,Act.put,zA,zB,zC,zD,zE,zF,Nat.reduceAdd];rfl
     case refine_2=>
      iterate 48 (refine SN ?_ ?_;rotate_left)
      exact Steps.nil;all_goals (intro L s w9 hN hU hi hS K hK;dsimp only at hK⊢;simp only[Act.put,zD,zE,zF]at hK)
      iterate 2 (go_simp;exact hS.o hK)
      ·simp only[hS.f hN 0,hS.f hN 1]at hK⊢;go_simp;exact hS.o hK
      ·simp only[hS.f hN 2]at hK⊢;go_simp;exact hS.o hK
      ·simp only[hS.f hN 3]at hK⊢;have u0:=CL _ hS.mem.bel;go_simp;exact hS.o hK
      iterate 2 (go_simp;exact hS.o hK)
      ·simp only[hS.f hN 5,hS.f hN 6]at hK⊢;go_simp;exact hS.o hK
      ·simp only[hS.f hN 7]at hK⊢;go_simp;exact hS.o hK
      ·simp only[hS.f hN 8]at hK⊢;have u0:=CH _ hS.mem.bel;go_simp;exact hS.o hK
      ·simp only[hS.f hN 4,hS.f hN 9]at hK⊢;go_simp;exact hS.o hK
      ·simp only[hS.f hN 10]at hK⊢;go_simp;exact hS.o hK
      iterate 2 (simp only[hS.f hN 11]at hK⊢;go_simp;exact hS.o hK)
      ·simp only[hS.f hN 12,hS.f hN 13,hS.f hN 11]at hK⊢;go_simp;exact hS.o hK
      ·simp only[hS.f hN 14,hS.f hN 11]at hK⊢;go_simp;exact hS.o hK
      ·simp only[hS.f hN 15,hS.f hN 11]at hK⊢;have u0:=CL _ hS.mem.bel;go_simp;exact hS.o hK
      ·simp only[hS.f hN 16,hS.f hN 11]at hK⊢;go_simp;go_at_call 66;refine(rwithin8 h2).mono ?_;rintro e9 w10 ⟨rfl,q⟩;exact hK.out _ _ (hS.val rfl (nSo rfl) q rfl)
      ·simp only[hS.f hN 17,hS.f hN 11]at hK⊢;go_simp;exact hS.o hK
      ·simp only[hS.f hN 11,hS.f hN 18]at hK⊢;go_simp;exact hS.o hK
      ·simp only[hS.f hN 19]at hK⊢;go_simp;exact hS.o hK
      iterate 7 (simp only[hS.f hN 20]at hK⊢;go_simp;exact hS.u hK)
      ·simp only[hS.f hN 20]at hK⊢;go_simp;exact hS.o hK
      ·simp only[hS.f hN 28]at hK⊢;go_simp;exact hS.o hK
      iterate 2 (simp only[hS.f hN 29]at hK⊢;go_simp;exact hS.u hK)
      ·simp only[hS.f hN 29]at hK⊢;go_simp;exact hK.out undef _ (hS.v0 rfl rfl rfl)
      iterate 13 (simp only[hS.f hN 32]at hK⊢;go_simp;exact hS.u hK)
      ·simp only[hS.f hN 29]at hK⊢;go_simp;exact hS.u hK
      ·simp only[hS.f hN 29]at hK⊢;go_simp;exact hS.o hK
     intro L s w9 hall hS;have e47:=hS.fx 47 rfl rfl (hall 47 (by decide));have q3:=hS.mem.bel;simp only[e47];have HQ3:=ZH (bT HQ.out q3);clear hS hall e47 q3;have HC2:Hid (R=false):=HC.out.trans (by rw[rangeB_2 (r:=(lo,hi)) h2];rfl);clear HC;go_wp2_with fail;exact bodyPost_ret (v:= .bool false) (by simp[results,Tryz.results64,go_sem]) rfl ⟨by rw[HF.out HC2.out],HQ3.out⟩
    |true=>
     cases h3:withinB hi with
     |false=>
      refine region_st (n:=48) (frame:= ?frame3) (fun jK=>[kF (.slice (some ⟨g,o,none⟩) l.length c),kI ((j:Nat)),kP g (o+(j)*2),kP g (o+(j)*2),kI lo,kF (.slice (some ⟨g,o,none⟩) l.length c),kI ((j:Nat)),kP g (o+(j)*2),kP g (o+(j)*2+1),kI hi,kB false,kB false,kF (.slice (some ⟨g,o,none⟩) l.length c),kI ((j:Nat)),kP g (o+(j)*2),kP g (o+(j)*2),kI lo,kB true,kB false,kB false,kB false,kF (.slice (some ⟨g,o,none⟩) l.length c),kI ((j:Nat)),kP g (o+(j)*2),kP g (o+(j)*2+1),kI hi,kB false,kB true,kB true,kB true,.none,.none,kF (undef),.none,.none,.none,.none,.none,.none,.none,.none,.none,.none,.none,.none,.none,.none,kB true].getD jK .none) [] (by kernel_rfl) (by kernel_rfl) (by kernel_rfl) rfl M2 (fun _ h=>by cases h) (fun _ h=>by cases h) ?_ ?_ ?_
      case refine_1=>
       intro s;simp only[fr,Act.put,zA,zB,zC,zD,zE,zF,Nat.reduceAdd];rfl
      case refine_2=>
       iterate 48 (refine SN ?_ ?_;rotate_left)
       exact Steps.nil;all_goals (intro L s w9 hN hU hi hS K hK;dsimp only at hK⊢;simp only[Act.put,zD,zE,zF]at hK)
       iterate 2 (go_simp;exact hS.o hK)
       ·simp only[hS.f hN 0,hS.f hN 1]at hK⊢;go_simp;exact hS.o hK
       ·simp only[hS.f hN 2]at hK⊢;go_simp;exact hS.o hK
       ·simp only[hS.f hN 3]at hK⊢;have u0:=CL _ hS.mem.bel;go_simp;exact hS.o hK
       iterate 2 (go_simp;exact hS.o hK)
       ·simp only[hS.f hN 5,hS.f hN 6]at hK⊢;go_simp;exact hS.o hK
       ·simp only[hS.f hN 7]at hK⊢;go_simp;exact hS.o hK
       ·simp only[hS.f hN 8]at hK⊢;have u0:=CH _ hS.mem.bel;go_simp;exact hS.o hK
       ·simp only[hS.f hN 4,hS.f hN 9]at hK⊢;go_simp;exact hS.o hK
       ·simp only[hS.f hN 10]at hK⊢;go_simp;exact hS.o hK
       iterate 2 (simp only[hS.f hN 11]at hK⊢;go_simp;exact hS.o hK)
       ·simp only[hS.f hN 12,hS.f hN 13,hS.f hN 11]at hK⊢;go_simp;exact hS.o hK
       ·simp only[hS.f hN 14,hS.f hN 11]at hK⊢;go_simp;exact hS.o hK
       ·simp only[hS.f hN 15,hS.f hN 11]at hK⊢;have u0:=CL _ hS.mem.bel;go_simp;exact hS.o hK
       ·simp only[hS.f hN 16,hS.f hN 11]at hK⊢;go_simp;go_at_call 66;refine(rwithin8 h2).mono ?_;rintro e9 w10 ⟨rfl,q⟩;exact hK.out _ _ (hS.val rfl (nSo rfl) q rfl)
       ·simp only[hS.f hN 17,hS.f hN 11]at hK⊢;go_simp;exact hS.o hK
       ·simp only[hS.f hN 11,hS.f hN 18]at hK⊢;go_simp;exact hS.o hK
       ·simp only[hS.f hN 19]at hK⊢;go_simp;exact hS.o hK
       iterate 2 (simp only[hS.f hN 20]at hK⊢;go_simp;exact hS.o hK)
       ·simp only[hS.f hN 21,hS.f hN 22,hS.f hN 20]at hK⊢;go_simp;exact hS.o hK
       ·simp only[hS.f hN 23,hS.f hN 20]at hK⊢;go_simp;exact hS.o hK
       ·simp only[hS.f hN 24,hS.f hN 20]at hK⊢;have u0:=CH _ hS.mem.bel;go_simp;exact hS.o hK
       ·simp only[hS.f hN 25,hS.f hN 20]at hK⊢;go_simp;go_at_call 66;refine(rwithin8 h3).mono ?_;rintro e9 w10 ⟨rfl,q⟩;exact hK.out _ _ (hS.val rfl (nSo rfl) q rfl)
       ·simp only[hS.f hN 26,hS.f hN 20]at hK⊢;go_simp;exact hS.o hK
       ·simp only[hS.f hN 20,hS.f hN 27]at hK⊢;go_simp;exact hS.o hK
       ·simp only[hS.f hN 28]at hK⊢;go_simp;exact hS.o hK
       iterate 2 (simp only[hS.f hN 29]at hK⊢;go_simp;exact hS.u hK)
       ·simp only[hS.f hN 29]at hK⊢;go_simp;exact hK.out undef _ (hS.v0 rfl rfl rfl)
       iterate 13 (simp only[hS.f hN 32]at hK⊢;go_simp;exact hS.u hK)
       ·simp only[hS.f hN 29]at hK⊢;go_simp;exact hS.u hK
       ·simp only[hS.f hN 29]at hK⊢;go_simp;exact hS.o hK
      intro L s w9 hall hS;have e47:=hS.fx 47 rfl rfl (hall 47 (by decide));have q3:=hS.mem.bel;simp only[e47];have HQ3:=ZH (bT HQ.out q3);clear hS hall e47 q3;have HC2:Hid (R=false):=HC.out.trans (by rw[rangeB_3 (r:=(lo,hi)) h3];rfl);clear HC;go_wp2_with fail;exact bodyPost_ret (v:= .bool false) (by simp[results,Tryz.results64,go_sem]) rfl ⟨by rw[HF.out HC2.out],HQ3.out⟩
     |true=>
      by_cases h0:j=0
      ·have d0:decide (0<j)=false:=dF (by omega);have hp0:=ZH (show prevR l j=none by rw[h0];rfl);clear h0;refine region_st (n:=48) (frame:= ?frame4) (fun jK=>[kF (.slice (some ⟨g,o,none⟩) l.length c),kI ((j:Nat)),kP g (o+(j)*2),kP g (o+(j)*2),kI lo,kF (.slice (some ⟨g,o,none⟩) l.length c),kI ((j:Nat)),kP g (o+(j)*2),kP g (o+(j)*2+1),kI hi,kB false,kB false,kF (.slice (some ⟨g,o,none⟩) l.length c),kI ((j:Nat)),kP g (o+(j)*2),kP g (o+(j)*2),kI lo,kB true,kB false,kB false,kB false,kF (.slice (some ⟨g,o,none⟩) l.length c),kI ((j:Nat)),kP g (o+(j)*2),kP g (o+(j)*2+1),kI hi,kB true,kB false,kB false,kB false,kI ((j:Nat)),kB false,kB false,.none,.none,.none,.none,.none,.none,.none,.none,.none,.none,.none,.none,.none,kB false,kB false].getD jK .none) [] (by kernel_rfl) (by kernel_rfl) (by kernel_rfl) rfl M2 (fun _ h=>by cases h) (fun _ h=>by cases h) ?_ ?_ ?_
       case refine_1=>
        intro s;simp only[fr,Act.put,zA,zB,zC,zD,zE,zF,Nat.reduceAdd];rfl
       case refine_2=>
        iterate 48 (refine SN ?_ ?_;rotate_left)
        exact Steps.nil;all_goals (intro L s w9 hN hU hi hS K hK;dsimp only at hK⊢;simp only[Act.put,zD,zE,zF]at hK)
        iterate 2 (go_simp;exact hS.o hK)
        ·simp only[hS.f hN 0,hS.f hN 1]at hK⊢;go_simp;exact hS.o hK
        ·simp only[hS.f hN 2]at hK⊢;go_simp;exact hS.o hK
        ·simp only[hS.f hN 3]at hK⊢;have u0:=CL _ hS.mem.bel;go_simp;exact hS.o hK
        iterate 2 (go_simp;exact hS.o hK)
        ·simp only[hS.f hN 5,hS.f hN 6]at hK⊢;go_simp;exact hS.o hK
        ·simp only[hS.f hN 7]at hK⊢;go_simp;exact hS.o hK
        ·simp only[hS.f hN 8]at hK⊢;have u0:=CH _ hS.mem.bel;go_simp;exact hS.o hK
        ·simp only[hS.f hN 4,hS.f hN 9]at hK⊢;go_simp;exact hS.o hK
        ·simp only[hS.f hN 10]at hK⊢;go_simp;exact hS.o hK
        iterate 2 (simp only[hS.f hN 11]at hK⊢;go_simp;exact hS.o hK)
        ·simp only[hS.f hN 12,hS.f hN 13,hS.f hN 11]at hK⊢;go_simp;exact hS.o hK
        ·simp only[hS.f hN 14,hS.f hN 11]at hK⊢;go_simp;exact hS.o hK
        ·simp only[hS.f hN 15,hS.f hN 11]at hK⊢;have u0:=CL _ hS.mem.bel;go_simp;exact hS.o hK
        ·simp only[hS.f hN 16,hS.f hN 11]at hK⊢;go_simp;go_at_call 66;refine(rwithin8 h2).mono ?_;rintro e9 w10 ⟨rfl,q⟩;exact hK.out _ _ (hS.val rfl (nSo rfl) q rfl)
        ·simp only[hS.f hN 17,hS.f hN 11]at hK⊢;go_simp;exact hS.o hK
        ·simp only[hS.f hN 11,hS.f hN 18]at hK⊢;go_simp;exact hS.o hK
        ·simp only[hS.f hN 19]at hK⊢;go_simp;exact hS.o hK
        iterate 2 (simp only[hS.f hN 20]at hK⊢;go_simp;exact hS.o hK)
        ·simp only[hS.f hN 21,hS.f hN 22,hS.f hN 20]at hK⊢;go_simp;exact hS.o hK
        ·simp only[hS.f hN 23,hS.f hN 20]at hK⊢;go_simp;exact hS.o hK
        ·simp only[hS.f hN 24,hS.f hN 20]at hK⊢;have u0:=CH _ hS.mem.bel;go_simp;exact hS.o hK
        ·simp only[hS.f hN 25,hS.f hN 20]at hK⊢;go_simp;go_at_call 66;refine(rwithin8 h3).mono ?_;rintro e9 w10 ⟨rfl,q⟩;exact hK.out _ _ (hS.val rfl (nSo rfl) q rfl)
        ·simp only[hS.f hN 26,hS.f hN 20]at hK⊢;go_simp;exact hS.o hK
        ·simp only[hS.f hN 20,hS.f hN 27]at hK⊢;go_simp;exact hS.o hK
        ·simp only[hS.f hN 28]at hK⊢;go_simp;exact hS.o hK
        ·simp only[hS.f hN 29]at hK⊢;go_simp;exact hS.o hK
        ·simp only[hS.f hN 30,hS.f hN 29]at hK⊢;go_simp;exact hS.o hK
        ·simp only[hS.f hN 31,hS.f hN 29]at hK⊢;go_simp;exact hS.o hK
        iterate 13 (simp only[hS.f hN 32]at hK⊢;go_simp;exact hS.u hK)
        ·simp only[hS.f hN 32,hS.f hN 29]at hK⊢;go_simp;exact hS.o hK
        ·simp only[hS.f hN 29,hS.f hN 46]at hK⊢;go_simp;exact hS.o hK
       intro L s w9 hall hS;have e47:=hS.fx 47 rfl rfl (hall 47 (by decide));have q3:=hS.mem.bel;have HC2:Hid (R=rangesB (prevR l (j+1)) (l.drop (j+1))):=HC.out.trans (by rw[hp0.out,rangeB_4 (r:=(lo,hi)) (by show lo≤hi;omega) h2 h3,Bool.true_and]);have HW2:Hid (∀v,prevR l (j+1)=some v→withinB v=true):=fun v e=>by
        rw[prev_next,HJ.out]at e;cases e;exact h3
       clear HC hp0;simp only[e47];have HQ3:=ZH (bT HQ.out q3);clear hS hall e47 q3;go_wp2_with fail;go_roundg (l.length-(j+1))
       case measure=>omega
       case rel=>exact⟨j+1,rfl,by omega,by simp,HC2.out,HW2.out,HQ3.out⟩
      ·obtain⟨i,hji⟩:∃i,j=i+1:=⟨j-1,by omega⟩;have hil:i<l.length:=by omega
       obtain⟨g',o',e',_,ph⟩:=HX.out.at hil;cases e';obtain⟨pv,hpv⟩:∃pv,(l.getD i (0,0)).2=pv:=⟨_,rfl⟩;rw[hpv]at ph;have PH:Lk wr g (o+i*2+1) (.int .i64 pv):=Lk.of ph;have hp1:prevR l j=some pv:=by rw[hji,prev_next,hpv]
       have w1:=within_in (HW.out pv hp1);have w2:=within_in h2;have d0:decide (0<j)=true:=dT (by omega);have x1:IntKind.i64.wrap ((j:Int)-1)=(i:Int):=by rw[IntKind.wrap_i64];omega
       have x2:IntKind.i64.wrap (pv+2)=pv+2:=by rw[IntKind.wrap_i64];omega
       have HC3:Hid (R=(decide (2≤lo-pv)&&rangesB (prevR l (j+1)) (l.drop (j+1)))):=HC.out.trans (by rw[hp1,rangeB_5 (r:=(lo,hi)) (by show lo≤hi;omega) h2 h3]);have HW2:Hid (∀v,prevR l (j+1)=some v→withinB v=true):=fun v e=>by
        rw[prev_next,HJ.out]at e;cases e;exact h3
       clear ph hpv HC hp1 hji h0;refine region_st (n:=48) (frame:= ?frame5) (fun jK=>[kF (.slice (some ⟨g,o,none⟩) l.length c),kI ((j:Nat)),kP g (o+(j)*2),kP g (o+(j)*2),kI lo,kF (.slice (some ⟨g,o,none⟩) l.length c),kI ((j:Nat)),kP g (o+(j)*2),kP g (o+(j)*2+1),kI hi,kB false,kB false,kF (.slice (some ⟨g,o,none⟩) l.length c),kI ((j:Nat)),kP g (o+(j)*2),kP g (o+(j)*2),kI lo,kB true,kB false,kB false,kB false,kF (.slice (some ⟨g,o,none⟩) l.length c),kI ((j:Nat)),kP g (o+(j)*2),kP g (o+(j)*2+1),kI hi,kB true,kB false,kB false,kB false,kI ((j:Nat)),kB true,kB true,kF (.slice (some ⟨g,o,none⟩) l.length c),kI ((j:Nat)),kP g (o+j*2),kP g (o+j*2),kI lo,kF (.slice (some ⟨g,o,none⟩) l.length c),kI ((j:Nat)),kI ((i:Nat)),kP g (o+i*2),kP g (o+i*2+1),kI pv,kI ((pv+2)),kB ((decide (lo<pv+2))),kB ((decide (lo<pv+2))),kB ((decide (lo<pv+2)))].getD jK .none) [] (by kernel_rfl) (by kernel_rfl) (by kernel_rfl) rfl M2 (fun _ h=>by cases h) (fun _ h=>by cases h) ?_ ?_ ?_
       case refine_1=>
        intro s;simp only[fr,Act.put,zA,zB,zC,zD,zE,zF,Nat.reduceAdd];rfl
       case refine_2=>
        iterate 48 (refine SN ?_ ?_;rotate_left)
        exact Steps.nil;all_goals (intro L s w9 hN hU hi hS K hK;dsimp only at hK⊢;simp only[Act.put,zD,zE,zF]at hK)
        iterate 2 (go_simp;exact hS.o hK)
        ·simp only[hS.f hN 0,hS.f hN 1]at hK⊢;go_simp;exact hS.o hK
        ·simp only[hS.f hN 2]at hK⊢;go_simp;exact hS.o hK
        ·simp only[hS.f hN 3]at hK⊢;have u0:=CL _ hS.mem.bel;go_simp;exact hS.o hK
        iterate 2 (go_simp;exact hS.o hK)
        ·simp only[hS.f hN 5,hS.f hN 6]at hK⊢;go_simp;exact hS.o hK
        ·simp only[hS.f hN 7]at hK⊢;go_simp;exact hS.o hK
        ·simp only[hS.f hN 8]at hK⊢;have u0:=CH _ hS.mem.bel;go_simp;exact hS.o hK
        ·simp only[hS.f hN 4,hS.f hN 9]at hK⊢;go_simp;exact hS.o hK
        ·simp only[hS.f hN 10]at hK⊢;go_simp;exact hS.o hK
        iterate 2 (simp only[hS.f hN 11]at hK⊢;go_simp;exact hS.o hK)
        ·simp only[hS.f hN 12,hS.f hN 13,hS.f hN 11]at hK⊢;go_simp;exact hS.o hK
        ·simp only[hS.f hN 14,hS.f hN 11]at hK⊢;go_simp;exact hS.o hK
        ·simp only[hS.f hN 15,hS.f hN 11]at hK⊢;have u0:=CL _ hS.mem.bel;go_simp;exact hS.o hK
        ·simp only[hS.f hN 16,hS.f hN 11]at hK⊢;go_simp;go_at_call 66;refine(rwithin8 h2).mono ?_;rintro e9 w10 ⟨rfl,q⟩;exact hK.out _ _ (hS.val rfl (nSo rfl) q rfl)
        ·simp only[hS.f hN 17,hS.f hN 11]at hK⊢;go_simp;exact hS.o hK
        ·simp only[hS.f hN 11,hS.f hN 18]at hK⊢;go_simp;exact hS.o hK
        ·simp only[hS.f hN 19]at hK⊢;go_simp;exact hS.o hK
        iterate 2 (simp only[hS.f hN 20]at hK⊢;go_simp;exact hS.o hK)
        ·simp only[hS.f hN 21,hS.f hN 22,hS.f hN 20]at hK⊢;go_simp;exact hS.o hK
        ·simp only[hS.f hN 23,hS.f hN 20]at hK⊢;go_simp;exact hS.o hK
        ·simp only[hS.f hN 24,hS.f hN 20]at hK⊢;have u0:=CH _ hS.mem.bel;go_simp;exact hS.o hK
        ·simp only[hS.f hN 25,hS.f hN 20]at hK⊢;go_simp;go_at_call 66;refine(rwithin8 h3).mono ?_;rintro e9 w10 ⟨rfl,q⟩;exact hK.out _ _ (hS.val rfl (nSo rfl) q rfl)
        ·simp only[hS.f hN 26,hS.f hN 20]at hK⊢;go_simp;exact hS.o hK
        ·simp only[hS.f hN 20,hS.f hN 27]at hK⊢;go_simp;exact hS.o hK
        ·simp only[hS.f hN 28]at hK⊢;go_simp;exact hS.o hK
        ·simp only[hS.f hN 29]at hK⊢;go_simp;exact hS.o hK
        ·simp only[hS.f hN 30,hS.f hN 29]at hK⊢;go_simp;exact hS.o hK
        ·simp only[hS.f hN 31,hS.f hN 29]at hK⊢;go_simp;exact hS.o hK
        iterate 2 (simp only[hS.f hN 32]at hK⊢;go_simp;exact hS.o hK)
        ·simp only[hS.f hN 33,hS.f hN 34,hS.f hN 32]at hK⊢;go_simp;exact hS.o hK
        ·simp only[hS.f hN 35,hS.f hN 32]at hK⊢;go_simp;exact hS.o hK
        ·simp only[hS.f hN 36,hS.f hN 32]at hK⊢;have u0:=CL _ hS.mem.bel;go_simp;exact hS.o hK
        iterate 2 (simp only[hS.f hN 32]at hK⊢;go_simp;exact hS.o hK)
        ·simp only[hS.f hN 39,hS.f hN 32]at hK⊢;go_simp;exact hS.o hK
        ·simp only[hS.f hN 38,hS.f hN 40,hS.f hN 32]at hK⊢;go_simp;exact hS.o hK
        ·simp only[hS.f hN 41,hS.f hN 32]at hK⊢;go_simp;exact hS.o hK
        ·simp only[hS.f hN 42,hS.f hN 32]at hK⊢;have u0:=PH _ hS.mem.bel;go_simp;exact hS.o hK
        ·simp only[hS.f hN 43,hS.f hN 32]at hK⊢;go_simp;exact hS.o hK
        ·simp only[hS.f hN 37,hS.f hN 44,hS.f hN 32]at hK⊢;go_simp;exact hS.o hK
        ·simp only[hS.f hN 32,hS.f hN 45,hS.f hN 29]at hK⊢;go_simp;exact hS.o hK
        ·simp only[hS.f hN 29,hS.f hN 46]at hK⊢;go_simp;exact hS.o hK
       intro L s w9 hall hS;have e47:=hS.fx 47 rfl rfl (hall 47 (by decide));have q3:=hS.mem.bel;by_cases h9:lo<pv+2
       ·rw[dT h9]at e47;simp only[e47];have HQ3:=ZH (bT HQ.out q3);clear hS hall e47 q3;have HC2:Hid (R=false):=HC3.out.trans (by rw[dF (show ¬2≤lo-pv by omega)];rfl);clear HC3;go_wp2_with fail;exact bodyPost_ret (v:= .bool false) (by simp[results,Tryz.results64,go_sem]) rfl ⟨by rw[HF.out HC2.out],HQ3.out⟩
       ·rw[dF h9]at e47;have HC2:Hid (R=rangesB (prevR l (j+1)) (l.drop (j+1))):=HC3.out.trans (by rw[dT (show 2≤lo-pv by omega),Bool.true_and]);clear HC3;simp only[e47];have HQ3:=ZH (bT HQ.out q3);clear hS hall e47 q3;go_wp2_with fail;go_roundg (l.length-(j+1))
        case measure=>omega
        case rel=>exact⟨j+1,rfl,by omega,by simp,HC2.out,HW2.out,HQ3.out⟩
  ·have d1:decide ((j:Int)<(l.length:Int))=false:=dF (by omega);have HC2:Hid (R=true):=HL.out.trans (by rw[drop_none hlt];rfl);have HE:=ZH (HT.out HC2.out);clear HL HF HT;go_wp2_with fail;exact bodyPost_ret (v:= .bool (decide (1≤(l.length:Int)))) (by simp[results,Tryz.results64,go_sem]) rfl ⟨by rw[HE.out],HQ.out⟩
theorem rset_any {w:World}{A:Option Addr}{c:Nat}{l:List (Int×Int)}(h:RRow w A l)(hs:l.length≤1000000):Calls Tryz.prog 37 #[.slice A l.length c] w fun e w'=>e= .returned (.bool (setB l))∧Below w.heap.size w w':=by
 have hinf:(Tryz.prog.info? 65).map (·.size)=some 2:=by kernel_rfl
 have HI:=ZH h;obtain⟨R,hR⟩:∃R,setB l=R:=⟨_,rfl⟩;have HR:Hid (R=rangesB (prevR l 0) (l.drop 0)):=hR.symm;obtain⟨T,hT⟩:∃T,setB l=T:=⟨_,rfl⟩;have HF:Hid (R=false→T=false):=fun e=>by rw[←hT];exact id (hR.trans e)
 have HT:Hid (R=true→T=true):=fun e=>by rw[←hT];exact id (hR.trans e)
 rw[hT];clear hT;clear hR h;go_enter Tryz.func37,Tryz.ntmps37;go_wp2_with fail;go_loopg [3] l.length (fun k p wr=>∃j,k=l.length-j∧j≤l.length∧p= .int .i64 (j:Nat)∧Hid (R=rangesB (prevR l j) (l.drop j))∧Hid (∀v,prevR l j=some v→withinB v=true)∧Hid (Below w.heap.size w wr))
 case atStart=>exact⟨0,rfl,Nat.zero_le _,rfl,HR.out,(fun v e=>by cases e),Below.refl _ _⟩
 case round=>
  clear HR;obtain⟨j,hk,hj,rfl,HL,HW,HQ⟩:=hrel;by_cases hlt:j<l.length
  ·have d1:decide ((j:Int)<(l.length:Int))=true:=dT (by omega);have HC:Hid (R=(rangeB (prevR l j) (l.getD j (0,0))&&rangesB (prevR l (j+1)) (l.drop (j+1)))):=HL.out.trans (ranges_step hlt);have HX:=ZH (HI.out.below HQ.out);obtain⟨g,o,rfl,cl,ch⟩:=HX.out.at hlt;obtain⟨r,hr⟩:∃r,l.getD j (0,0)=r:=⟨_,rfl⟩;rw[hr]at cl ch HC;obtain⟨lo,hi⟩:=r;have CL:Lk wr g (o+j*2) (.int .i64 lo):=Lk.of cl;have CH:Lk wr g (o+j*2+1) (.int .i64 hi):=Lk.of ch;have M2:=Mem.start wr;have hj0:((l.getD j (0,0)).2)=hi:=by rw[hr]
   have HJ:=ZH hj0;clear HL hr hj0 cl ch;go_upto_region 4 with fail;by_cases h1:hi<lo
   ·have e1:decide (hi<lo)=true:=dT h1;refine region_st (n:=48) (frame:= ?frame6) (fun jK=>[kF (.slice (some ⟨g,o,none⟩) l.length c),kI ((j:Nat)),kP g (o+(j)*2),kP g (o+(j)*2),kI lo,kF (.slice (some ⟨g,o,none⟩) l.length c),kI ((j:Nat)),kP g (o+(j)*2),kP g (o+(j)*2+1),kI hi,kB true,kB true,.none,.none,.none,.none,.none,.none,.none,kB true,kB true,.none,.none,.none,.none,.none,.none,.none,kB true,kB true,.none,.none,kF (undef),.none,.none,.none,.none,.none,.none,.none,.none,.none,.none,.none,.none,.none,.none,kB true].getD jK .none) [] (by kernel_rfl) (by kernel_rfl) (by kernel_rfl) rfl M2 (fun _ h=>by cases h) (fun _ h=>by cases h) ?_ ?_ ?_
    case refine_1=>
     intro s;simp only[fr,Act.put,zA,zB,zC,zD,zE,zF,Nat.reduceAdd];rfl
    case refine_2=>
     iterate 48 (refine SN ?_ ?_;rotate_left)
     exact Steps.nil;all_goals (intro L s w9 hN hU hi hS K hK;dsimp only at hK⊢;simp only[Act.put,zD,zE,zF]at hK)
     iterate 2 (go_simp;exact hS.o hK)
     ·simp only[hS.f hN 0,hS.f hN 1]at hK⊢;go_simp;exact hS.o hK
     ·simp only[hS.f hN 2]at hK⊢;go_simp;exact hS.o hK
     ·simp only[hS.f hN 3]at hK⊢;have u0:=CL _ hS.mem.bel;go_simp;exact hS.o hK
     iterate 2 (go_simp;exact hS.o hK)
     ·simp only[hS.f hN 5,hS.f hN 6]at hK⊢;go_simp;exact hS.o hK
     ·simp only[hS.f hN 7]at hK⊢;go_simp;exact hS.o hK
     ·simp only[hS.f hN 8]at hK⊢;have u0:=CH _ hS.mem.bel;go_simp;exact hS.o hK
     ·simp only[hS.f hN 4,hS.f hN 9]at hK⊢;go_simp;exact hS.o hK
     ·simp only[hS.f hN 10]at hK⊢;go_simp;exact hS.o hK
     iterate 7 (simp only[hS.f hN 11]at hK⊢;go_simp;exact hS.u hK)
     ·simp only[hS.f hN 11]at hK⊢;go_simp;exact hS.o hK
     ·simp only[hS.f hN 19]at hK⊢;go_simp;exact hS.o hK
     iterate 7 (simp only[hS.f hN 20]at hK⊢;go_simp;exact hS.u hK)
     ·simp only[hS.f hN 20]at hK⊢;go_simp;exact hS.o hK
     ·simp only[hS.f hN 28]at hK⊢;go_simp;exact hS.o hK
     iterate 2 (simp only[hS.f hN 29]at hK⊢;go_simp;exact hS.u hK)
     ·simp only[hS.f hN 29]at hK⊢;go_simp;exact hK.out undef _ (hS.v0 rfl rfl rfl)
     iterate 13 (simp only[hS.f hN 32]at hK⊢;go_simp;exact hS.u hK)
     ·simp only[hS.f hN 29]at hK⊢;go_simp;exact hS.u hK
     ·simp only[hS.f hN 29]at hK⊢;go_simp;exact hS.o hK
    intro L s w9 hall hS;have e47:=hS.fx 47 rfl rfl (hall 47 (by decide));have q3:=hS.mem.bel;simp only[e47];have HQ3:=ZH (bT HQ.out q3);clear hS hall e47 q3;have HC2:Hid (R=false):=HC.out.trans (by rw[rangeB_1 (r:=(lo,hi)) h1];rfl);clear HC;go_wp2_with fail;exact bodyPost_ret (v:= .bool false) (by simp[results,Tryz.results37,go_sem]) rfl ⟨by rw[HF.out HC2.out],HQ3.out⟩
   ·have e1:decide (hi<lo)=false:=dF h1;cases h2:withinB lo with
    |false=>
     refine region_st (n:=48) (frame:= ?frame7) (fun jK=>[kF (.slice (some ⟨g,o,none⟩) l.length c),kI ((j:Nat)),kP g (o+(j)*2),kP g (o+(j)*2),kI lo,kF (.slice (some ⟨g,o,none⟩) l.length c),kI ((j:Nat)),kP g (o+(j)*2),kP g (o+(j)*2+1),kI hi,kB false,kB false,kF (.slice (some ⟨g,o,none⟩) l.length c),kI ((j:Nat)),kP g (o+(j)*2),kP g (o+(j)*2),kI lo,kB false,kB true,kB true,kB true,.none,.none,.none,.none,.none,.none,.none,kB true,kB true,.none,.none,kF (undef),.none,.none,.none,.none,.none,.none,.none,.none,.none,.none,.none,.none,.none,.none,kB true].getD jK .none) [] (by kernel_rfl) (by kernel_rfl) (by kernel_rfl) rfl M2 (fun _ h=>by cases h) (fun _ h=>by cases h) ?_ ?_ ?_
     case refine_1=>
      intro s;simp only[fr,Act.put,zA,zB,zC,zD,zE,zF,Nat.reduceAdd];rfl
     case refine_2=>
      iterate 48 (refine SN ?_ ?_;rotate_left)
      exact Steps.nil;all_goals (intro L s w9 hN hU hi hS K hK;dsimp only at hK⊢;simp only[Act.put,zD,zE,zF]at hK)
      iterate 2 (go_simp;exact hS.o hK)
      ·simp only[hS.f hN 0,hS.f hN 1]at hK⊢;go_simp;exact hS.o hK
      ·simp only[hS.f hN 2]at hK⊢;go_simp;exact hS.o hK
      ·simp only[hS.f hN 3]at hK⊢;have u0:=CL _ hS.mem.bel;go_simp;exact hS.o hK
      iterate 2 (go_simp;exact hS.o hK)
      ·simp only[hS.f hN 5,hS.f hN 6]at hK⊢;go_simp;exact hS.o hK
      ·simp only[hS.f hN 7]at hK⊢;go_simp;exact hS.o hK
      ·simp only[hS.f hN 8]at hK⊢;have u0:=CH _ hS.mem.bel;go_simp;exact hS.o hK
      ·simp only[hS.f hN 4,hS.f hN 9]at hK⊢;go_simp;exact hS.o hK
      ·simp only[hS.f hN 10]at hK⊢;go_simp;exact hS.o hK
      iterate 2 (simp only[hS.f hN 11]at hK⊢;go_simp;exact hS.o hK)
      ·simp only[hS.f hN 12,hS.f hN 13,hS.f hN 11]at hK⊢;go_simp;exact hS.o hK
      ·simp only[hS.f hN 14,hS.f hN 11]at hK⊢;go_simp;exact hS.o hK
      ·simp only[hS.f hN 15,hS.f hN 11]at hK⊢;have u0:=CL _ hS.mem.bel;go_simp;exact hS.o hK
      ·simp only[hS.f hN 16,hS.f hN 11]at hK⊢;go_simp;go_at_call 66;refine(rwithin8 h2).mono ?_;rintro e9 w10 ⟨rfl,q⟩;exact hK.out _ _ (hS.val rfl (nSo rfl) q rfl)
      ·simp only[hS.f hN 17,hS.f hN 11]at hK⊢;go_simp;exact hS.o hK
      ·simp only[hS.f hN 11,hS.f hN 18]at hK⊢;go_simp;exact hS.o hK
      ·simp only[hS.f hN 19]at hK⊢;go_simp;exact hS.o hK
      iterate 7 (simp only[hS.f hN 20]at hK⊢;go_simp;exact hS.u hK)
      ·simp only[hS.f hN 20]at hK⊢;go_simp;exact hS.o hK
      ·simp only[hS.f hN 28]at hK⊢;go_simp;exact hS.o hK
      iterate 2 (simp only[hS.f hN 29]at hK⊢;go_simp;exact hS.u hK)
      ·simp only[hS.f hN 29]at hK⊢;go_simp;exact hK.out undef _ (hS.v0 rfl rfl rfl)
      iterate 13 (simp only[hS.f hN 32]at hK⊢;go_simp;exact hS.u hK)
      ·simp only[hS.f hN 29]at hK⊢;go_simp;exact hS.u hK
      ·simp only[hS.f hN 29]at hK⊢;go_simp;exact hS.o hK
     intro L s w9 hall hS;have e47:=hS.fx 47 rfl rfl (hall 47 (by decide));have q3:=hS.mem.bel;simp only[e47];have HQ3:=ZH (bT HQ.out q3);clear hS hall e47 q3;have HC2:Hid (R=false):=HC.out.trans (by rw[rangeB_2 (r:=(lo,hi)) h2];rfl);clear HC;go_wp2_with fail;exact bodyPost_ret (v:= .bool false) (by simp[results,Tryz.results37,go_sem]) rfl ⟨by rw[HF.out HC2.out],HQ3.out⟩
    |true=>
     cases h3:withinB hi with
     |false=>
      refine region_st (n:=48) (frame:= ?frame8) (fun jK=>[kF (.slice (some ⟨g,o,none⟩) l.length c),kI ((j:Nat)),kP g (o+(j)*2),kP g (o+(j)*2),kI lo,kF (.slice (some ⟨g,o,none⟩) l.length c),kI ((j:Nat)),kP g (o+(j)*2),kP g (o+(j)*2+1),kI hi,kB false,kB false,kF (.slice (some ⟨g,o,none⟩) l.length c),kI ((j:Nat)),kP g (o+(j)*2),kP g (o+(j)*2),kI lo,kB true,kB false,kB false,kB false,kF (.slice (some ⟨g,o,none⟩) l.length c),kI ((j:Nat)),kP g (o+(j)*2),kP g (o+(j)*2+1),kI hi,kB false,kB true,kB true,kB true,.none,.none,kF (undef),.none,.none,.none,.none,.none,.none,.none,.none,.none,.none,.none,.none,.none,.none,kB true].getD jK .none) [] (by kernel_rfl) (by kernel_rfl) (by kernel_rfl) rfl M2 (fun _ h=>by cases h) (fun _ h=>by cases h) ?_ ?_ ?_
      case refine_1=>
       intro s;simp only[fr,Act.put,zA,zB,zC,zD,zE,zF,Nat.reduceAdd];rfl
      case refine_2=>
       iterate 48 (refine SN ?_ ?_;rotate_left)
       exact Steps.nil;all_goals (intro L s w9 hN hU hi hS K hK;dsimp only at hK⊢;simp only[Act.put,zD,zE,zF]at hK)
       iterate 2 (go_simp;exact hS.o hK)
       ·simp only[hS.f hN 0,hS.f hN 1]at hK⊢;go_simp;exact hS.o hK
       ·simp only[hS.f hN 2]at hK⊢;go_simp;exact hS.o hK
       ·simp only[hS.f hN 3]at hK⊢;have u0:=CL _ hS.mem.bel;go_simp;exact hS.o hK
       iterate 2 (go_simp;exact hS.o hK)
       ·simp only[hS.f hN 5,hS.f hN 6]at hK⊢;go_simp;exact hS.o hK
       ·simp only[hS.f hN 7]at hK⊢;go_simp;exact hS.o hK
       ·simp only[hS.f hN 8]at hK⊢;have u0:=CH _ hS.mem.bel;go_simp;exact hS.o hK
       ·simp only[hS.f hN 4,hS.f hN 9]at hK⊢;go_simp;exact hS.o hK
       ·simp only[hS.f hN 10]at hK⊢;go_simp;exact hS.o hK
       iterate 2 (simp only[hS.f hN 11]at hK⊢;go_simp;exact hS.o hK)
       ·simp only[hS.f hN 12,hS.f hN 13,hS.f hN 11]at hK⊢;go_simp;exact hS.o hK
       ·simp only[hS.f hN 14,hS.f hN 11]at hK⊢;go_simp;exact hS.o hK
       ·simp only[hS.f hN 15,hS.f hN 11]at hK⊢;have u0:=CL _ hS.mem.bel;go_simp;exact hS.o hK
       ·simp only[hS.f hN 16,hS.f hN 11]at hK⊢;go_simp;go_at_call 66;refine(rwithin8 h2).mono ?_;rintro e9 w10 ⟨rfl,q⟩;exact hK.out _ _ (hS.val rfl (nSo rfl) q rfl)
       ·simp only[hS.f hN 17,hS.f hN 11]at hK⊢;go_simp;exact hS.o hK
       ·simp only[hS.f hN 11,hS.f hN 18]at hK⊢;go_simp;exact hS.o hK
       ·simp only[hS.f hN 19]at hK⊢;go_simp;exact hS.o hK
       iterate 2 (simp only[hS.f hN 20]at hK⊢;go_simp;exact hS.o hK)
       ·simp only[hS.f hN 21,hS.f hN 22,hS.f hN 20]at hK⊢;go_simp;exact hS.o hK
       ·simp only[hS.f hN 23,hS.f hN 20]at hK⊢;go_simp;exact hS.o hK
       ·simp only[hS.f hN 24,hS.f hN 20]at hK⊢;have u0:=CH _ hS.mem.bel;go_simp;exact hS.o hK
       ·simp only[hS.f hN 25,hS.f hN 20]at hK⊢;go_simp;go_at_call 66;refine(rwithin8 h3).mono ?_;rintro e9 w10 ⟨rfl,q⟩;exact hK.out _ _ (hS.val rfl (nSo rfl) q rfl)
       ·simp only[hS.f hN 26,hS.f hN 20]at hK⊢;go_simp;exact hS.o hK
       ·simp only[hS.f hN 20,hS.f hN 27]at hK⊢;go_simp;exact hS.o hK
       ·simp only[hS.f hN 28]at hK⊢;go_simp;exact hS.o hK
       iterate 2 (simp only[hS.f hN 29]at hK⊢;go_simp;exact hS.u hK)
       ·simp only[hS.f hN 29]at hK⊢;go_simp;exact hK.out undef _ (hS.v0 rfl rfl rfl)
       iterate 13 (simp only[hS.f hN 32]at hK⊢;go_simp;exact hS.u hK)
       ·simp only[hS.f hN 29]at hK⊢;go_simp;exact hS.u hK
       ·simp only[hS.f hN 29]at hK⊢;go_simp;exact hS.o hK
      intro L s w9 hall hS;have e47:=hS.fx 47 rfl rfl (hall 47 (by decide));have q3:=hS.mem.bel;simp only[e47];have HQ3:=ZH (bT HQ.out q3);clear hS hall e47 q3;have HC2:Hid (R=false):=HC.out.trans (by rw[rangeB_3 (r:=(lo,hi)) h3];rfl);clear HC;go_wp2_with fail;exact bodyPost_ret (v:= .bool false) (by simp[results,Tryz.results37,go_sem]) rfl ⟨by rw[HF.out HC2.out],HQ3.out⟩
     |true=>
      by_cases h0:j=0
      ·have d0:decide (0<j)=false:=dF (by omega);have hp0:=ZH (show prevR l j=none by rw[h0];rfl);clear h0;refine region_st (n:=48) (frame:= ?frame9) (fun jK=>[kF (.slice (some ⟨g,o,none⟩) l.length c),kI ((j:Nat)),kP g (o+(j)*2),kP g (o+(j)*2),kI lo,kF (.slice (some ⟨g,o,none⟩) l.length c),kI ((j:Nat)),kP g (o+(j)*2),kP g (o+(j)*2+1),kI hi,kB false,kB false,kF (.slice (some ⟨g,o,none⟩) l.length c),kI ((j:Nat)),kP g (o+(j)*2),kP g (o+(j)*2),kI lo,kB true,kB false,kB false,kB false,kF (.slice (some ⟨g,o,none⟩) l.length c),kI ((j:Nat)),kP g (o+(j)*2),kP g (o+(j)*2+1),kI hi,kB true,kB false,kB false,kB false,kI ((j:Nat)),kB false,kB false,.none,.none,.none,.none,.none,.none,.none,.none,.none,.none,.none,.none,.none,kB false,kB false].getD jK .none) [] (by kernel_rfl) (by kernel_rfl) (by kernel_rfl) rfl M2 (fun _ h=>by cases h) (fun _ h=>by cases h) ?_ ?_ ?_
       case refine_1=>
        intro s;simp only[fr,Act.put,zA,zB,zC,zD,zE,zF,Nat.reduceAdd];rfl
       case refine_2=>
        iterate 48 (refine SN ?_ ?_;rotate_left)
        exact Steps.nil;all_goals (intro L s w9 hN hU hi hS K hK;dsimp only at hK⊢;simp only[Act.put,zD,zE,zF]at hK)
        iterate 2 (go_simp;exact hS.o hK)
        ·simp only[hS.f hN 0,hS.f hN 1]at hK⊢;go_simp;exact hS.o hK
        ·simp only[hS.f hN 2]at hK⊢;go_simp;exact hS.o hK
        ·simp only[hS.f hN 3]at hK⊢;have u0:=CL _ hS.mem.bel;go_simp;exact hS.o hK
        iterate 2 (go_simp;exact hS.o hK)
        ·simp only[hS.f hN 5,hS.f hN 6]at hK⊢;go_simp;exact hS.o hK
        ·simp only[hS.f hN 7]at hK⊢;go_simp;exact hS.o hK
        ·simp only[hS.f hN 8]at hK⊢;have u0:=CH _ hS.mem.bel;go_simp;exact hS.o hK
        ·simp only[hS.f hN 4,hS.f hN 9]at hK⊢;go_simp;exact hS.o hK
        ·simp only[hS.f hN 10]at hK⊢;go_simp;exact hS.o hK
        iterate 2 (simp only[hS.f hN 11]at hK⊢;go_simp;exact hS.o hK)
        ·simp only[hS.f hN 12,hS.f hN 13,hS.f hN 11]at hK⊢;go_simp;exact hS.o hK
        ·simp only[hS.f hN 14,hS.f hN 11]at hK⊢;go_simp;exact hS.o hK
        ·simp only[hS.f hN 15,hS.f hN 11]at hK⊢;have u0:=CL _ hS.mem.bel;go_simp;exact hS.o hK
        ·simp only[hS.f hN 16,hS.f hN 11]at hK⊢;go_simp;go_at_call 66;refine(rwithin8 h2).mono ?_;rintro e9 w10 ⟨rfl,q⟩;exact hK.out _ _ (hS.val rfl (nSo rfl) q rfl)
        ·simp only[hS.f hN 17,hS.f hN 11]at hK⊢;go_simp;exact hS.o hK
        ·simp only[hS.f hN 11,hS.f hN 18]at hK⊢;go_simp;exact hS.o hK
        ·simp only[hS.f hN 19]at hK⊢;go_simp;exact hS.o hK
        iterate 2 (simp only[hS.f hN 20]at hK⊢;go_simp;exact hS.o hK)
        ·simp only[hS.f hN 21,hS.f hN 22,hS.f hN 20]at hK⊢;go_simp;exact hS.o hK
        ·simp only[hS.f hN 23,hS.f hN 20]at hK⊢;go_simp;exact hS.o hK
        ·simp only[hS.f hN 24,hS.f hN 20]at hK⊢;have u0:=CH _ hS.mem.bel;go_simp;exact hS.o hK
        ·simp only[hS.f hN 25,hS.f hN 20]at hK⊢;go_simp;go_at_call 66;refine(rwithin8 h3).mono ?_;rintro e9 w10 ⟨rfl,q⟩;exact hK.out _ _ (hS.val rfl (nSo rfl) q rfl)
        ·simp only[hS.f hN 26,hS.f hN 20]at hK⊢;go_simp;exact hS.o hK
        ·simp only[hS.f hN 20,hS.f hN 27]at hK⊢;go_simp;exact hS.o hK
        ·simp only[hS.f hN 28]at hK⊢;go_simp;exact hS.o hK
        ·simp only[hS.f hN 29]at hK⊢;go_simp;exact hS.o hK
        ·simp only[hS.f hN 30,hS.f hN 29]at hK⊢;go_simp;exact hS.o hK
        ·simp only[hS.f hN 31,hS.f hN 29]at hK⊢;go_simp;exact hS.o hK
        iterate 13 (simp only[hS.f hN 32]at hK⊢;go_simp;exact hS.u hK)
        ·simp only[hS.f hN 32,hS.f hN 29]at hK⊢;go_simp;exact hS.o hK
        ·simp only[hS.f hN 29,hS.f hN 46]at hK⊢;go_simp;exact hS.o hK
       intro L s w9 hall hS;have e47:=hS.fx 47 rfl rfl (hall 47 (by decide));have q3:=hS.mem.bel;have HC2:Hid (R=rangesB (prevR l (j+1)) (l.drop (j+1))):=HC.out.trans (by rw[hp0.out,rangeB_4 (r:=(lo,hi)) (by show lo≤hi;omega) h2 h3,Bool.true_and]);have HW2:Hid (∀v,prevR l (j+1)=some v→withinB v=true):=fun v e=>by
        rw[prev_next,HJ.out]at e;cases e;exact h3
       clear HC hp0;simp only[e47];have HQ3:=ZH (bT HQ.out q3);clear hS hall e47 q3;go_wp2_with fail;go_roundg (l.length-(j+1))
       case measure=>omega
       case rel=>exact⟨j+1,rfl,by omega,by simp,HC2.out,HW2.out,HQ3.out⟩
      ·obtain⟨i,hji⟩:∃i,j=i+1:=⟨j-1,by omega⟩;have hil:i<l.length:=by omega
       obtain⟨g',o',e',_,ph⟩:=HX.out.at hil;cases e';obtain⟨pv,hpv⟩:∃pv,(l.getD i (0,0)).2=pv:=⟨_,rfl⟩;rw[hpv]at ph;have PH:Lk wr g (o+i*2+1) (.int .i64 pv):=Lk.of ph;have hp1:prevR l j=some pv:=by rw[hji,prev_next,hpv]
       have w1:=within_in (HW.out pv hp1);have w2:=within_in h2;have d0:decide (0<j)=true:=dT (by omega);have x1:IntKind.i64.wrap ((j:Int)-1)=(i:Int):=by rw[IntKind.wrap_i64];omega
       have x2:IntKind.i64.wrap (pv+2)=pv+2:=by rw[IntKind.wrap_i64];omega
       have HC3:Hid (R=(decide (2≤lo-pv)&&rangesB (prevR l (j+1)) (l.drop (j+1)))):=HC.out.trans (by rw[hp1,rangeB_5 (r:=(lo,hi)) (by show lo≤hi;omega) h2 h3]);have HW2:Hid (∀v,prevR l (j+1)=some v→withinB v=true):=fun v e=>by
        rw[prev_next,HJ.out]at e;cases e;exact h3
       clear ph hpv HC hp1 hji h0;refine region_st (n:=48) (frame:= ?frame10) (fun jK=>[kF (.slice (some ⟨g,o,none⟩) l.length c),kI ((j:Nat)),kP g (o+(j)*2),kP g (o+(j)*2),kI lo,kF (.slice (some ⟨g,o,none⟩) l.length c),kI ((j:Nat)),kP g (o+(j)*2),kP g (o+(j)*2+1),kI hi,kB false,kB false,kF (.slice (some ⟨g,o,none⟩) l.length c),kI ((j:Nat)),kP g (o+(j)*2),kP g (o+(j)*2),kI lo,kB true,kB false,kB false,kB false,kF (.slice (some ⟨g,o,none⟩) l.length c),kI ((j:Nat)),kP g (o+(j)*2),kP g (o+(j)*2+1),kI hi,kB true,kB false,kB false,kB false,kI ((j:Nat)),kB true,kB true,kF (.slice (some ⟨g,o,none⟩) l.length c),kI ((j:Nat)),kP g (o+j*2),kP g (o+j*2),kI lo,kF (.slice (some ⟨g,o,none⟩) l.length c),kI ((j:Nat)),kI ((i:Nat)),kP g (o+i*2),kP g (o+i*2+1),kI pv,kI ((pv+2)),kB ((decide (lo<pv+2))),kB ((decide (lo<pv+2))),kB ((decide (lo<pv+2)))].getD jK .none) [] (by kernel_rfl) (by kernel_rfl) (by kernel_rfl) rfl M2 (fun _ h=>by cases h) (fun _ h=>by cases h) ?_ ?_ ?_
       case refine_1=>
        intro s;simp only[fr,Act.put,zA,zB,zC,zD,zE,zF,Nat.reduceAdd];rfl
       case refine_2=>
        iterate 48 (refine SN ?_ ?_;rotate_left)
        exact Steps.nil;all_goals (intro L s w9 hN hU hi hS K hK;dsimp only at hK⊢;simp only[Act.put,zD,zE,zF]at hK)
        iterate 2 (go_simp;exact hS.o hK)
        ·simp only[hS.f hN 0,hS.f hN 1]at hK⊢;go_simp;exact hS.o hK
        ·simp only[hS.f hN 2]at hK⊢;go_simp;exact hS.o hK
        ·simp only[hS.f hN 3]at hK⊢;have u0:=CL _ hS.mem.bel;go_simp;exact hS.o hK
        iterate 2 (go_simp;exact hS.o hK)
        ·simp only[hS.f hN 5,hS.f hN 6]at hK⊢;go_simp;exact hS.o hK
        ·simp only[hS.f hN 7]at hK⊢;go_simp;exact hS.o hK
        ·simp only[hS.f hN 8]at hK⊢;have u0:=CH _ hS.mem.bel;go_simp;exact hS.o hK
        ·simp only[hS.f hN 4,hS.f hN 9]at hK⊢;go_simp;exact hS.o hK
        ·simp only[hS.f hN 10]at hK⊢;go_simp;exact hS.o hK
        iterate 2 (simp only[hS.f hN 11]at hK⊢;go_simp;exact hS.o hK)
        ·simp only[hS.f hN 12,hS.f hN 13,hS.f hN 11]at hK⊢;go_simp;exact hS.o hK
        ·simp only[hS.f hN 14,hS.f hN 11]at hK⊢;go_simp;exact hS.o hK
        ·simp only[hS.f hN 15,hS.f hN 11]at hK⊢;have u0:=CL _ hS.mem.bel;go_simp;exact hS.o hK
        ·simp only[hS.f hN 16,hS.f hN 11]at hK⊢;go_simp;go_at_call 66;refine(rwithin8 h2).mono ?_;rintro e9 w10 ⟨rfl,q⟩;exact hK.out _ _ (hS.val rfl (nSo rfl) q rfl)
        ·simp only[hS.f hN 17,hS.f hN 11]at hK⊢;go_simp;exact hS.o hK
        ·simp only[hS.f hN 11,hS.f hN 18]at hK⊢;go_simp;exact hS.o hK
        ·simp only[hS.f hN 19]at hK⊢;go_simp;exact hS.o hK
        iterate 2 (simp only[hS.f hN 20]at hK⊢;go_simp;exact hS.o hK)
        ·simp only[hS.f hN 21,hS.f hN 22,hS.f hN 20]at hK⊢;go_simp;exact hS.o hK
        ·simp only[hS.f hN 23,hS.f hN 20]at hK⊢;go_simp;exact hS.o hK
        ·simp only[hS.f hN 24,hS.f hN 20]at hK⊢;have u0:=CH _ hS.mem.bel;go_simp;exact hS.o hK
        ·simp only[hS.f hN 25,hS.f hN 20]at hK⊢;go_simp;go_at_call 66;refine(rwithin8 h3).mono ?_;rintro e9 w10 ⟨rfl,q⟩;exact hK.out _ _ (hS.val rfl (nSo rfl) q rfl)
        ·simp only[hS.f hN 26,hS.f hN 20]at hK⊢;go_simp;exact hS.o hK
        ·simp only[hS.f hN 20,hS.f hN 27]at hK⊢;go_simp;exact hS.o hK
        ·simp only[hS.f hN 28]at hK⊢;go_simp;exact hS.o hK
        ·simp only[hS.f hN 29]at hK⊢;go_simp;exact hS.o hK
        ·simp only[hS.f hN 30,hS.f hN 29]at hK⊢;go_simp;exact hS.o hK
        ·simp only[hS.f hN 31,hS.f hN 29]at hK⊢;go_simp;exact hS.o hK
        iterate 2 (simp only[hS.f hN 32]at hK⊢;go_simp;exact hS.o hK)
        ·simp only[hS.f hN 33,hS.f hN 34,hS.f hN 32]at hK⊢;go_simp;exact hS.o hK
        ·simp only[hS.f hN 35,hS.f hN 32]at hK⊢;go_simp;exact hS.o hK
        ·simp only[hS.f hN 36,hS.f hN 32]at hK⊢;have u0:=CL _ hS.mem.bel;go_simp;exact hS.o hK
        iterate 2 (simp only[hS.f hN 32]at hK⊢;go_simp;exact hS.o hK)
        ·simp only[hS.f hN 39,hS.f hN 32]at hK⊢;go_simp;exact hS.o hK
        ·simp only[hS.f hN 38,hS.f hN 40,hS.f hN 32]at hK⊢;go_simp;exact hS.o hK
        ·simp only[hS.f hN 41,hS.f hN 32]at hK⊢;go_simp;exact hS.o hK
        ·simp only[hS.f hN 42,hS.f hN 32]at hK⊢;have u0:=PH _ hS.mem.bel;go_simp;exact hS.o hK
        ·simp only[hS.f hN 43,hS.f hN 32]at hK⊢;go_simp;exact hS.o hK
        ·simp only[hS.f hN 37,hS.f hN 44,hS.f hN 32]at hK⊢;go_simp;exact hS.o hK
        ·simp only[hS.f hN 32,hS.f hN 45,hS.f hN 29]at hK⊢;go_simp;exact hS.o hK
        ·simp only[hS.f hN 29,hS.f hN 46]at hK⊢;go_simp;exact hS.o hK
       intro L s w9 hall hS;have e47:=hS.fx 47 rfl rfl (hall 47 (by decide));have q3:=hS.mem.bel;by_cases h9:lo<pv+2
       ·rw[dT h9]at e47;simp only[e47];have HQ3:=ZH (bT HQ.out q3);clear hS hall e47 q3;have HC2:Hid (R=false):=HC3.out.trans (by rw[dF (show ¬2≤lo-pv by omega)];rfl);clear HC3;go_wp2_with fail;exact bodyPost_ret (v:= .bool false) (by simp[results,Tryz.results37,go_sem]) rfl ⟨by rw[HF.out HC2.out],HQ3.out⟩
       ·rw[dF h9]at e47;have HC2:Hid (R=rangesB (prevR l (j+1)) (l.drop (j+1))):=HC3.out.trans (by rw[dT (show 2≤lo-pv by omega),Bool.true_and]);clear HC3;simp only[e47];have HQ3:=ZH (bT HQ.out q3);clear hS hall e47 q3;go_wp2_with fail;go_roundg (l.length-(j+1))
        case measure=>omega
        case rel=>exact⟨j+1,rfl,by omega,by simp,HC2.out,HW2.out,HQ3.out⟩
  ·have d1:decide ((j:Int)<(l.length:Int))=false:=dF (by omega);have HC2:Hid (R=true):=HL.out.trans (by rw[drop_none hlt];rfl);have HE:=ZH (HT.out HC2.out);clear HL HF HT;go_wp2_with fail;exact bodyPost_ret (v:= .bool (true)) (by simp[results,Tryz.results37,go_sem]) rfl ⟨by rw[HE.out],HQ.out⟩
end Go.Proofs.YtecfcjdgmpopjaaGreat

import Derived.Test.YtecfcjdgmpopjaaGreatGc
set_option maxHeartbeats 16000000
set_option maxRecDepth 100000
set_option linter.unusedSimpArgs false
set_option linter.unusedVariables false
namespace Go.Proofs.YtecfcjdgmpopjaaGreat
open Go.RowKit Num
theorem mwithin {z:Int}{b:Bool}(h:withinB z=b){w:World}:Calls Tryz.prog 156 #[.int .i64 z] w fun e w'=>e= .returned (.bool b)∧Below w.heap.size w w':=by
 unfold withinB at h;go_enter Tryz.func156,Tryz.ntmps156;by_cases h1: -1048576≤z
 ·have d1:decide (-1048576≤z)=true:=dT h1;rw[d1,Bool.true_and]at h;by_cases h2:z≤1048576
  ·have d2:decide (z≤1048576)=true:=dT h2;rw[d2]at h;subst h;go_wp2_with fail;exact bodyPost_ret (v:= .bool true) (by simp[results,Tryz.results156,go_sem]) rfl ⟨rfl,Below.refl _ _⟩
  ·have d2:decide (z≤1048576)=false:=dF h2;rw[d2]at h;subst h;go_wp2_with fail;exact bodyPost_ret (v:= .bool false) (by simp[results,Tryz.results156,go_sem]) rfl ⟨rfl,Below.refl _ _⟩
 ·have d1:decide (-1048576≤z)=false:=dF h1;rw[d1,Bool.false_and]at h;subst h;go_wp2_with fail;exact bodyPost_ret (v:= .bool false) (by simp[results,Tryz.results156,go_sem]) rfl ⟨rfl,Below.refl _ _⟩
theorem swithin {z:Int}{b:Bool}(h:withinB z=b){w:World}:Calls Tryz.prog 106 #[.int .i64 z] w fun e w'=>e= .returned (.bool b)∧Below w.heap.size w w':=by
 unfold withinB at h;go_enter Tryz.func106,Tryz.ntmps106;by_cases h1: -1048576≤z
 ·have d1:decide (-1048576≤z)=true:=dT h1;rw[d1,Bool.true_and]at h;by_cases h2:z≤1048576
  ·have d2:decide (z≤1048576)=true:=dT h2;rw[d2]at h;subst h;go_wp2_with fail;exact bodyPost_ret (v:= .bool true) (by simp[results,Tryz.results106,go_sem]) rfl ⟨rfl,Below.refl _ _⟩
  ·have d2:decide (z≤1048576)=false:=dF h2;rw[d2]at h;subst h;go_wp2_with fail;exact bodyPost_ret (v:= .bool false) (by simp[results,Tryz.results106,go_sem]) rfl ⟨rfl,Below.refl _ _⟩
 ·have d1:decide (-1048576≤z)=false:=dF h1;rw[d1,Bool.false_and]at h;subst h;go_wp2_with fail;exact bodyPost_ret (v:= .bool false) (by simp[results,Tryz.results106,go_sem]) rfl ⟨rfl,Below.refl _ _⟩
def prevR (l:List (Int×Int))(j:Nat):Option Int:=if j=0 then none else some (l.getD (j-1) (0,0)).2
theorem prev_next (l:List (Int×Int))(j:Nat):prevR l (j+1)=some (l.getD j (0,0)).2:=by
 unfold prevR;rw[if_neg (Nat.succ_ne_zero j)];rfl
theorem ranges_step {l:List (Int×Int)}{j:Nat}(h:j<l.length):rangesB (prevR l j) (l.drop j)=(rangeB (prevR l j) (l.getD j (0,0))&&rangesB (prevR l (j+1)) (l.drop (j+1))):=by
 rw[drop_at (z:=(0,0)) h,prev_next];rfl
theorem rangeB_1 {p:Option Int}{r:Int×Int}(h:r.2<r.1):rangeB p r=false:=by
 unfold rangeB;rw[dF (show ¬r.1≤r.2 by omega)];rfl
theorem rangeB_2 {p:Option Int}{r:Int×Int}(h:withinB r.1=false):rangeB p r=false:=by
 unfold rangeB;rw[h,Bool.false_and,Bool.and_false]
theorem rangeB_3 {p:Option Int}{r:Int×Int}(h:withinB r.2=false):rangeB p r=false:=by
 unfold rangeB;rw[h,Bool.false_and,Bool.and_false,Bool.and_false]
theorem rangeB_4 {r:Int×Int}(h:r.1≤r.2)(h1:withinB r.1=true)(h2:withinB r.2=true):rangeB none r=true:=by
 unfold rangeB;rw[h1,h2,dT h];rfl
theorem rangeB_5 {p:Int}{r:Int×Int}(h:r.1≤r.2)(h1:withinB r.1=true)(h2:withinB r.2=true):rangeB (some p) r=decide (2≤r.1-p):=by
 unfold rangeB;rw[h1,h2,dT h];rfl
theorem dom_f {l:List (Int×Int)}(h:setB l=false):domB l=false:=by
 unfold setB at h;unfold domB;rw[h];rfl
theorem dom_t {l:List (Int×Int)}(h:setB l=true):domB l=decide (1≤(l.length:Int)):=by
 unfold setB at h;unfold domB;rw[h,Bool.true_and];exact decide_eq_decide.2 (by omega)
theorem domain_any {w:World}{A:Option Addr}{c:Nat}{l:List (Int×Int)}(h:RRow w A l)(hs:l.length≤1000000):Calls Tryz.prog 104 #[.slice A l.length c] w fun e w'=>e= .returned (.bool (domB l))∧Below w.heap.size w w':=by
 have hinf:(Tryz.prog.info? 65).map (·.size)=some 2:=by kernel_rfl
 have HI:=ZH h;obtain⟨R,hR⟩:∃R,setB l=R:=⟨_,rfl⟩;have HR:Hid (R=rangesB (prevR l 0) (l.drop 0)):=hR.symm;obtain⟨T,hT⟩:∃T,domB l=T:=⟨_,rfl⟩;have HF:Hid (R=false→T=false):=fun e=>by rw[←hT];exact dom_f (hR.trans e)
 have HT:Hid (R=true→T=decide (1≤(l.length:Int))):=fun e=>by rw[←hT];exact dom_t (hR.trans e)
 rw[hT];clear hT;clear hR h;go_enter Tryz.func104,Tryz.ntmps104;go_wp2_with fail;go_loopg [7] l.length (fun k p wr=>∃j,k=l.length-j∧j≤l.length∧p= .int .i64 (j:Nat)∧Hid (R=rangesB (prevR l j) (l.drop j))∧Hid (∀v,prevR l j=some v→withinB v=true)∧Hid (Below w.heap.size w wr))
 case atStart=>exact⟨0,rfl,Nat.zero_le _,rfl,HR.out,(fun v e=>by cases e),Below.refl _ _⟩
 case round=>
  clear HR;obtain⟨j,hk,hj,rfl,HL,HW,HQ⟩:=hrel;by_cases hlt:j<l.length
  ·have d1:decide ((j:Int)<(l.length:Int))=true:=dT (by omega);have HC:Hid (R=(rangeB (prevR l j) (l.getD j (0,0))&&rangesB (prevR l (j+1)) (l.drop (j+1)))):=HL.out.trans (ranges_step hlt);have HX:=ZH (HI.out.below HQ.out);obtain⟨g,o,rfl,cl,ch⟩:=HX.out.at hlt;obtain⟨r,hr⟩:∃r,l.getD j (0,0)=r:=⟨_,rfl⟩;rw[hr]at cl ch HC;obtain⟨lo,hi⟩:=r;have M2:=(Mem.start wr).new 65 #[.int .i64 0,.int .i64 0];have hj0:((l.getD j (0,0)).2)=hi:=by rw[hr]
   have HJ:=ZH hj0;clear HL hr hj0;go_upto_region 4 with ((with_reducible refine st_ ?_);refine wP2 _ _ (M2.k (i:=0) rfl) rfl rfl rfl rfl hinf rfl rfl ?_;intro w5 b5 g5';replace M2:=M2.row (by omega) (by simp) rfl b5 g5');clear b5 g5' cl ch;by_cases h1:hi<lo
   ·have e1:decide (hi<lo)=true:=dT h1;refine region_st (n:=33) (frame:= ?frame1) (fun jK=>[kP wr.heap.size 0,kI lo,kP wr.heap.size 1,kI hi,kB true,kB true,.none,.none,.none,.none,kB true,kB true,.none,.none,.none,.none,kB true,kB true,.none,.none,kF (undef),.none,.none,.none,.none,.none,.none,.none,.none,.none,.none,.none,kB true].getD jK .none) [] (by kernel_rfl) (by kernel_rfl) (by kernel_rfl) rfl M2 (fun _ h=>by cases h) (fun _ h=>by cases h) ?_ ?_ ?_
    case refine_1=>
     intro s;simp only[fr,Act.put,zA,zB,zC,zD,zE,zF,Nat.reduceAdd];rfl
    case refine_2=>
     iterate 33 (refine SN ?_ ?_;rotate_left)
     exact Steps.nil;all_goals (intro L s w9 hN hU hi hS K hK;dsimp only at hK⊢;simp only[Act.put,zD,zE,zF]at hK)
     ·go_simp;exact hS.o hK
     ·simp only[hS.f hN 0]at hK⊢;obtain⟨u1,u2,_,_⟩:=(hS.mem.k (i:=0) rfl).both;go_simp;exact hS.o hK
     ·go_simp;exact hS.o hK
     ·simp only[hS.f hN 2]at hK⊢;obtain⟨u1,u2,_,_⟩:=(hS.mem.k (i:=0) rfl).both;go_simp;exact hS.o hK
     ·simp only[hS.f hN 1,hS.f hN 3]at hK⊢;go_simp;exact hS.o hK
     ·simp only[hS.f hN 4]at hK⊢;go_simp;exact hS.o hK
     iterate 4 (simp only[hS.f hN 5]at hK⊢;go_simp;exact hS.u hK)
     ·simp only[hS.f hN 5]at hK⊢;go_simp;exact hS.o hK
     ·simp only[hS.f hN 10]at hK⊢;go_simp;exact hS.o hK
     iterate 4 (simp only[hS.f hN 11]at hK⊢;go_simp;exact hS.u hK)
     ·simp only[hS.f hN 11]at hK⊢;go_simp;exact hS.o hK
     ·simp only[hS.f hN 16]at hK⊢;go_simp;exact hS.o hK
     iterate 2 (simp only[hS.f hN 17]at hK⊢;go_simp;exact hS.u hK)
     ·simp only[hS.f hN 17]at hK⊢;go_simp;exact hK.out undef _ (hS.v0 rfl rfl rfl)
     iterate 10 (simp only[hS.f hN 20]at hK⊢;go_simp;exact hS.u hK)
     ·simp only[hS.f hN 17]at hK⊢;go_simp;exact hS.u hK
     ·simp only[hS.f hN 17]at hK⊢;go_simp;exact hS.o hK
    intro L s w9 hall hS;have e32:=hS.fx 32 rfl rfl (hall 32 (by decide));have q3:=hS.mem.bel;simp only[e32];have HQ3:=ZH (bT HQ.out q3);clear hS hall e32 q3;have HC2:Hid (R=false):=HC.out.trans (by rw[rangeB_1 (r:=(lo,hi)) h1];rfl);clear HC;go_wp2_with fail;exact bodyPost_ret (v:= .bool false) (by simp[results,Tryz.results104,go_sem]) rfl ⟨by rw[HF.out HC2.out],HQ3.out⟩
   ·have e1:decide (hi<lo)=false:=dF h1;cases h2:withinB lo with
    |false=>
     refine region_st (n:=33) (frame:= ?frame2) (fun jK=>[kP wr.heap.size 0,kI lo,kP wr.heap.size 1,kI hi,kB false,kB false,kP wr.heap.size 0,kI lo,kB false,kB true,kB true,kB true,.none,.none,.none,.none,kB true,kB true,.none,.none,kF (undef),.none,.none,.none,.none,.none,.none,.none,.none,.none,.none,.none,kB true].getD jK .none) [] (by kernel_rfl) (by kernel_rfl) (by kernel_rfl) rfl M2 (fun _ h=>by cases h) (fun _ h=>by cases h) ?_ ?_ ?_
     case refine_1=>
      intro s;simp only[fr,Act.put,zA,zB,zC,zD,zE,zF,Nat.reduceAdd];rfl
     case refine_2=>
      iterate 33 (refine SN ?_ ?_;rotate_left)
      exact Steps.nil;all_goals (intro L s w9 hN hU hi hS K hK;dsimp only at hK⊢;simp only[Act.put,zD,zE,zF]at hK)
      ·go_simp;exact hS.o hK
      ·simp only[hS.f hN 0]at hK⊢;obtain⟨u1,u2,_,_⟩:=(hS.mem.k (i:=0) rfl).both;go_simp;exact hS.o hK
      ·go_simp;exact hS.o hK
      ·simp only[hS.f hN 2]at hK⊢;obtain⟨u1,u2,_,_⟩:=(hS.mem.k (i:=0) rfl).both;go_simp;exact hS.o hK
      ·simp only[hS.f hN 1,hS.f hN 3]at hK⊢;go_simp;exact hS.o hK
      ·simp only[hS.f hN 4]at hK⊢;go_simp;exact hS.o hK
      ·simp only[hS.f hN 5]at hK⊢;go_simp;exact hS.o hK
      ·simp only[hS.f hN 6,hS.f hN 5]at hK⊢;obtain⟨u1,u2,_,_⟩:=(hS.mem.k (i:=0) rfl).both;go_simp;exact hS.o hK
      ·simp only[hS.f hN 7,hS.f hN 5]at hK⊢;go_simp;go_at_call 156;refine(mwithin h2).mono ?_;rintro e9 w10 ⟨rfl,q⟩;exact hK.out _ _ (hS.val rfl (nSo rfl) q rfl)
      ·simp only[hS.f hN 8,hS.f hN 5]at hK⊢;go_simp;exact hS.o hK
      ·simp only[hS.f hN 5,hS.f hN 9]at hK⊢;go_simp;exact hS.o hK
      ·simp only[hS.f hN 10]at hK⊢;go_simp;exact hS.o hK
      iterate 4 (simp only[hS.f hN 11]at hK⊢;go_simp;exact hS.u hK)
      ·simp only[hS.f hN 11]at hK⊢;go_simp;exact hS.o hK
      ·simp only[hS.f hN 16]at hK⊢;go_simp;exact hS.o hK
      iterate 2 (simp only[hS.f hN 17]at hK⊢;go_simp;exact hS.u hK)
      ·simp only[hS.f hN 17]at hK⊢;go_simp;exact hK.out undef _ (hS.v0 rfl rfl rfl)
      iterate 10 (simp only[hS.f hN 20]at hK⊢;go_simp;exact hS.u hK)
      ·simp only[hS.f hN 17]at hK⊢;go_simp;exact hS.u hK
      ·simp only[hS.f hN 17]at hK⊢;go_simp;exact hS.o hK
     intro L s w9 hall hS;have e32:=hS.fx 32 rfl rfl (hall 32 (by decide));have q3:=hS.mem.bel;simp only[e32];have HQ3:=ZH (bT HQ.out q3);clear hS hall e32 q3;have HC2:Hid (R=false):=HC.out.trans (by rw[rangeB_2 (r:=(lo,hi)) h2];rfl);clear HC;go_wp2_with fail;exact bodyPost_ret (v:= .bool false) (by simp[results,Tryz.results104,go_sem]) rfl ⟨by rw[HF.out HC2.out],HQ3.out⟩
    |true=>
     cases h3:withinB hi with
     |false=>
      refine region_st (n:=33) (frame:= ?frame3) (fun jK=>[kP wr.heap.size 0,kI lo,kP wr.heap.size 1,kI hi,kB false,kB false,kP wr.heap.size 0,kI lo,kB true,kB false,kB false,kB false,kP wr.heap.size 1,kI hi,kB false,kB true,kB true,kB true,.none,.none,kF (undef),.none,.none,.none,.none,.none,.none,.none,.none,.none,.none,.none,kB true].getD jK .none) [] (by kernel_rfl) (by kernel_rfl) (by kernel_rfl) rfl M2 (fun _ h=>by cases h) (fun _ h=>by cases h) ?_ ?_ ?_
      case refine_1=>
       intro s;simp only[fr,Act.put,zA,zB,zC,zD,zE,zF,Nat.reduceAdd];rfl
      case refine_2=>
       iterate 33 (refine SN ?_ ?_;rotate_left)
       exact Steps.nil;all_goals (intro L s w9 hN hU hi hS K hK;dsimp only at hK⊢;simp only[Act.put,zD,zE,zF]at hK)
       ·go_simp;exact hS.o hK
       ·simp only[hS.f hN 0]at hK⊢;obtain⟨u1,u2,_,_⟩:=(hS.mem.k (i:=0) rfl).both;go_simp;exact hS.o hK
       ·go_simp;exact hS.o hK
       ·simp only[hS.f hN 2]at hK⊢;obtain⟨u1,u2,_,_⟩:=(hS.mem.k (i:=0) rfl).both;go_simp;exact hS.o hK
       ·simp only[hS.f hN 1,hS.f hN 3]at hK⊢;go_simp;exact hS.o hK
       ·simp only[hS.f hN 4]at hK⊢;go_simp;exact hS.o hK
       ·simp only[hS.f hN 5]at hK⊢;go_simp;exact hS.o hK
       ·simp only[hS.f hN 6,hS.f hN 5]at hK⊢;obtain⟨u1,u2,_,_⟩:=(hS.mem.k (i:=0) rfl).both;go_simp;exact hS.o hK
       ·simp only[hS.f hN 7,hS.f hN 5]at hK⊢;go_simp;go_at_call 156;refine(mwithin h2).mono ?_;rintro e9 w10 ⟨rfl,q⟩;exact hK.out _ _ (hS.val rfl (nSo rfl) q rfl)
       ·simp only[hS.f hN 8,hS.f hN 5]at hK⊢;go_simp;exact hS.o hK
       ·simp only[hS.f hN 5,hS.f hN 9]at hK⊢;go_simp;exact hS.o hK
       ·simp only[hS.f hN 10]at hK⊢;go_simp;exact hS.o hK
       ·simp only[hS.f hN 11]at hK⊢;go_simp;exact hS.o hK
       ·simp only[hS.f hN 12,hS.f hN 11]at hK⊢;obtain⟨u1,u2,_,_⟩:=(hS.mem.k (i:=0) rfl).both;go_simp;exact hS.o hK
       ·simp only[hS.f hN 13,hS.f hN 11]at hK⊢;go_simp;go_at_call 156;refine(mwithin h3).mono ?_;rintro e9 w10 ⟨rfl,q⟩;exact hK.out _ _ (hS.val rfl (nSo rfl) q rfl)
       ·simp only[hS.f hN 14,hS.f hN 11]at hK⊢;go_simp;exact hS.o hK
       ·simp only[hS.f hN 11,hS.f hN 15]at hK⊢;go_simp;exact hS.o hK
       ·simp only[hS.f hN 16]at hK⊢;go_simp;exact hS.o hK
       iterate 2 (simp only[hS.f hN 17]at hK⊢;go_simp;exact hS.u hK)
       ·simp only[hS.f hN 17]at hK⊢;go_simp;exact hK.out undef _ (hS.v0 rfl rfl rfl)
       iterate 10 (simp only[hS.f hN 20]at hK⊢;go_simp;exact hS.u hK)
       ·simp only[hS.f hN 17]at hK⊢;go_simp;exact hS.u hK
       ·simp only[hS.f hN 17]at hK⊢;go_simp;exact hS.o hK
      intro L s w9 hall hS;have e32:=hS.fx 32 rfl rfl (hall 32 (by decide));have q3:=hS.mem.bel;simp only[e32];have HQ3:=ZH (bT HQ.out q3);clear hS hall e32 q3;have HC2:Hid (R=false):=HC.out.trans (by rw[rangeB_3 (r:=(lo,hi)) h3];rfl);clear HC;go_wp2_with fail;exact bodyPost_ret (v:= .bool false) (by simp[results,Tryz.results104,go_sem]) rfl ⟨by rw[HF.out HC2.out],HQ3.out⟩
     |true=>
      by_cases h0:j=0
      ·subst h0;refine region_st (n:=33) (frame:= ?frame4) (fun jK=>[kP wr.heap.size 0,kI lo,kP wr.heap.size 1,kI hi,kB false,kB false,kP wr.heap.size 0,kI lo,kB true,kB false,kB false,kB false,kP wr.heap.size 1,kI hi,kB true,kB false,kB false,kB false,kI (((0:Nat):Int)),kB false,kB false,.none,.none,.none,.none,.none,.none,.none,.none,.none,.none,kB false,kB false].getD jK .none) [] (by kernel_rfl) (by kernel_rfl) (by kernel_rfl) rfl M2 (fun _ h=>by cases h) (fun _ h=>by cases h) ?_ ?_ ?_
       case refine_1=>
        intro s;simp only[fr,Act.put,zA,zB,zC,zD,zE,zF,Nat.reduceAdd];rfl
       case refine_2=>
        iterate 33 (refine SN ?_ ?_;rotate_left)
        exact Steps.nil;all_goals (intro L s w9 hN hU hi hS K hK;dsimp only at hK⊢;simp only[Act.put,zD,zE,zF]at hK)
        ·go_simp;exact hS.o hK
        ·simp only[hS.f hN 0]at hK⊢;obtain⟨u1,u2,_,_⟩:=(hS.mem.k (i:=0) rfl).both;go_simp;exact hS.o hK
        ·go_simp;exact hS.o hK
        ·simp only[hS.f hN 2]at hK⊢;obtain⟨u1,u2,_,_⟩:=(hS.mem.k (i:=0) rfl).both;go_simp;exact hS.o hK
        ·simp only[hS.f hN 1,hS.f hN 3]at hK⊢;go_simp;exact hS.o hK
        ·simp only[hS.f hN 4]at hK⊢;go_simp;exact hS.o hK
        ·simp only[hS.f hN 5]at hK⊢;go_simp;exact hS.o hK
        ·simp only[hS.f hN 6,hS.f hN 5]at hK⊢;obtain⟨u1,u2,_,_⟩:=(hS.mem.k (i:=0) rfl).both;go_simp;exact hS.o hK
        ·simp only[hS.f hN 7,hS.f hN 5]at hK⊢;go_simp;go_at_call 156;refine(mwithin h2).mono ?_;rintro e9 w10 ⟨rfl,q⟩;exact hK.out _ _ (hS.val rfl (nSo rfl) q rfl)
        ·simp only[hS.f hN 8,hS.f hN 5]at hK⊢;go_simp;exact hS.o hK
        ·simp only[hS.f hN 5,hS.f hN 9]at hK⊢;go_simp;exact hS.o hK
        ·simp only[hS.f hN 10]at hK⊢;go_simp;exact hS.o hK
        ·simp only[hS.f hN 11]at hK⊢;go_simp;exact hS.o hK
        ·simp only[hS.f hN 12,hS.f hN 11]at hK⊢;obtain⟨u1,u2,_,_⟩:=(hS.mem.k (i:=0) rfl).both;go_simp;exact hS.o hK
        ·simp only[hS.f hN 13,hS.f hN 11]at hK⊢;go_simp;go_at_call 156;refine(mwithin h3).mono ?_;rintro e9 w10 ⟨rfl,q⟩;exact hK.out _ _ (hS.val rfl (nSo rfl) q rfl)
        ·simp only[hS.f hN 14,hS.f hN 11]at hK⊢;go_simp;exact hS.o hK
        ·simp only[hS.f hN 11,hS.f hN 15]at hK⊢;go_simp;exact hS.o hK
        ·simp only[hS.f hN 16]at hK⊢;go_simp;exact hS.o hK
        ·simp only[hS.f hN 17]at hK⊢;go_simp;exact hS.o hK
        ·simp only[hS.f hN 18,hS.f hN 17]at hK⊢;go_simp;exact hS.o hK
        ·simp only[hS.f hN 19,hS.f hN 17]at hK⊢;go_simp;exact hS.o hK
        iterate 10 (simp only[hS.f hN 20]at hK⊢;go_simp;exact hS.u hK)
        ·simp only[hS.f hN 20,hS.f hN 17]at hK⊢;go_simp;exact hS.o hK
        ·simp only[hS.f hN 17,hS.f hN 31]at hK⊢;go_simp;exact hS.o hK
       intro L s w9 hall hS;have e32:=hS.fx 32 rfl rfl (hall 32 (by decide));have q3:=hS.mem.bel;have HC2:Hid (R=rangesB (prevR l (0+1)) (l.drop (0+1))):=HC.out.trans (by rw[show prevR l 0=none from rfl,rangeB_4 (r:=(lo,hi)) (by show lo≤hi;omega) h2 h3,Bool.true_and]);have HW2:Hid (∀v,prevR l (0+1)=some v→withinB v=true):=fun v e=>by
        rw[prev_next,HJ.out]at e;cases e;exact h3
       clear HC;simp only[e32];have HQ3:=ZH (bT HQ.out q3);clear hS hall e32 q3;go_wp2_with fail;go_roundg (l.length-(0+1))
       case measure=>omega
       case rel=>exact⟨0+1,rfl,by omega,by simp,HC2.out,HW2.out,HQ3.out⟩
      ·obtain⟨i,rfl⟩:∃i,j=i+1:=⟨j-1,by omega⟩;have hil:i<l.length:=by omega
       obtain⟨g',o',e',_,ph⟩:=HX.out.at hil;cases e';obtain⟨pv,hpv⟩:∃pv,(l.getD i (0,0)).2=pv:=⟨_,rfl⟩;rw[hpv]at ph;have PH:=Lk.of ph;have hp1:prevR l (i+1)=some pv:=by rw[prev_next,hpv]
       have w1:=within_in (HW.out pv hp1);have w2:=within_in h2;have d0:decide ((0:Int)<((i+1:Nat):Int))=true:=dT (by omega);have x1:IntKind.i64.wrap (i:Int)=(i:Int):=by rw[IntKind.wrap_i64];omega
       have x2:IntKind.i64.wrap (lo-pv)=lo-pv:=by rw[IntKind.wrap_i64];omega
       have HC3:Hid (R=(decide (2≤lo-pv)&&rangesB (prevR l (i+1+1)) (l.drop (i+1+1)))):=HC.out.trans (by rw[hp1,rangeB_5 (r:=(lo,hi)) (by show lo≤hi;omega) h2 h3]);have HW2:Hid (∀v,prevR l (i+1+1)=some v→withinB v=true):=fun v e=>by
        rw[prev_next,HJ.out]at e;cases e;exact h3
       clear ph hpv HC hp1;refine region_st (n:=33) (frame:= ?frame5) (fun jK=>[kP wr.heap.size 0,kI lo,kP wr.heap.size 1,kI hi,kB false,kB false,kP wr.heap.size 0,kI lo,kB true,kB false,kB false,kB false,kP wr.heap.size 1,kI hi,kB true,kB false,kB false,kB false,kI (((i+1:Nat):Int)),kB true,kB true,kP wr.heap.size 0,kI lo,kF (.slice (some ⟨g,o,none⟩) l.length c),kI (((i+1:Nat):Int)),kI ((i:Nat)),kP g (o+i*2),kP g (o+i*2+1),kI pv,kI ((lo-pv)),kB ((decide (lo-pv<2))),kB ((decide (lo-pv<2))),kB ((decide (lo-pv<2)))].getD jK .none) [] (by kernel_rfl) (by kernel_rfl) (by kernel_rfl) rfl M2 (fun _ h=>by cases h) (fun _ h=>by cases h) ?_ ?_ ?_
       case refine_1=>
        intro s;simp only[fr,Act.put,zA,zB,zC,zD,zE,zF,Nat.reduceAdd];rfl
       case refine_2=>
        iterate 33 (refine SN ?_ ?_;rotate_left)
        exact Steps.nil;all_goals (intro L s w9 hN hU hi hS K hK;dsimp only at hK⊢;simp only[Act.put,zD,zE,zF]at hK)
        ·go_simp;exact hS.o hK
        ·simp only[hS.f hN 0]at hK⊢;obtain⟨u1,u2,_,_⟩:=(hS.mem.k (i:=0) rfl).both;go_simp;exact hS.o hK
        ·go_simp;exact hS.o hK
        ·simp only[hS.f hN 2]at hK⊢;obtain⟨u1,u2,_,_⟩:=(hS.mem.k (i:=0) rfl).both;go_simp;exact hS.o hK
        ·simp only[hS.f hN 1,hS.f hN 3]at hK⊢;go_simp;exact hS.o hK
        ·simp only[hS.f hN 4]at hK⊢;go_simp;exact hS.o hK
        ·simp only[hS.f hN 5]at hK⊢;go_simp;exact hS.o hK
        ·simp only[hS.f hN 6,hS.f hN 5]at hK⊢;obtain⟨u1,u2,_,_⟩:=(hS.mem.k (i:=0) rfl).both;go_simp;exact hS.o hK
        ·simp only[hS.f hN 7,hS.f hN 5]at hK⊢;go_simp;go_at_call 156;refine(mwithin h2).mono ?_;rintro e9 w10 ⟨rfl,q⟩;exact hK.out _ _ (hS.val rfl (nSo rfl) q rfl)
        ·simp only[hS.f hN 8,hS.f hN 5]at hK⊢;go_simp;exact hS.o hK
        ·simp only[hS.f hN 5,hS.f hN 9]at hK⊢;go_simp;exact hS.o hK
        ·simp only[hS.f hN 10]at hK⊢;go_simp;exact hS.o hK
        ·simp only[hS.f hN 11]at hK⊢;go_simp;exact hS.o hK
        ·simp only[hS.f hN 12,hS.f hN 11]at hK⊢;obtain⟨u1,u2,_,_⟩:=(hS.mem.k (i:=0) rfl).both;go_simp;exact hS.o hK
        ·simp only[hS.f hN 13,hS.f hN 11]at hK⊢;go_simp;go_at_call 156;refine(mwithin h3).mono ?_;rintro e9 w10 ⟨rfl,q⟩;exact hK.out _ _ (hS.val rfl (nSo rfl) q rfl)
        ·simp only[hS.f hN 14,hS.f hN 11]at hK⊢;go_simp;exact hS.o hK
        ·simp only[hS.f hN 11,hS.f hN 15]at hK⊢;go_simp;exact hS.o hK
        ·simp only[hS.f hN 16]at hK⊢;go_simp;exact hS.o hK
        ·simp only[hS.f hN 17]at hK⊢;go_simp;exact hS.o hK
        ·simp only[hS.f hN 18,hS.f hN 17]at hK⊢;go_simp;exact hS.o hK
        ·simp only[hS.f hN 19,hS.f hN 17]at hK⊢;go_simp;exact hS.o hK
        ·simp only[hS.f hN 20]at hK⊢;go_simp;exact hS.o hK
        ·simp only[hS.f hN 21,hS.f hN 20]at hK⊢;obtain⟨u1,u2,_,_⟩:=(hS.mem.k (i:=0) rfl).both;go_simp;exact hS.o hK
        iterate 2 (simp only[hS.f hN 20]at hK⊢;go_simp;exact hS.o hK)
        ·simp only[hS.f hN 24,hS.f hN 20]at hK⊢;go_simp;exact hS.o hK
        ·simp only[hS.f hN 23,hS.f hN 25,hS.f hN 20]at hK⊢;go_simp;exact hS.o hK
        ·simp only[hS.f hN 26,hS.f hN 20]at hK⊢;go_simp;exact hS.o hK
        ·simp only[hS.f hN 27,hS.f hN 20]at hK⊢;have u0:=PH _ hS.mem.bel;go_simp;exact hS.o hK
        ·simp only[hS.f hN 22,hS.f hN 28,hS.f hN 20]at hK⊢;go_simp;exact hS.o hK
        ·simp only[hS.f hN 29,hS.f hN 20]at hK⊢;go_simp;exact hS.o hK
        ·simp only[hS.f hN 20,hS.f hN 30,hS.f hN 17]at hK⊢;go_simp;exact hS.o hK
        ·simp only[hS.f hN 17,hS.f hN 31]at hK⊢;go_simp;exact hS.o hK
       intro L s w9 hall hS;have e32:=hS.fx 32 rfl rfl (hall 32 (by decide));have q3:=hS.mem.bel;by_cases h9:lo-pv<2
       ·rw[dT h9]at e32;simp only[e32];have HQ3:=ZH (bT HQ.out q3);clear hS hall e32 q3;have HC2:Hid (R=false):=HC3.out.trans (by rw[dF (show ¬2≤lo-pv by omega)];rfl);clear HC3;go_wp2_with fail;exact bodyPost_ret (v:= .bool false) (by simp[results,Tryz.results104,go_sem]) rfl ⟨by rw[HF.out HC2.out],HQ3.out⟩
       ·rw[dF h9]at e32;have HC2:Hid (R=rangesB (prevR l (i+1+1)) (l.drop (i+1+1))):=HC3.out.trans (by rw[dT (show 2≤lo-pv by omega),Bool.true_and]);clear HC3;simp only[e32];have HQ3:=ZH (bT HQ.out q3);clear hS hall e32 q3;go_wp2_with fail;go_roundg (l.length-(i+1+1))
        case measure=>omega
        case rel=>exact⟨i+1+1,rfl,by omega,by simp,HC2.out,HW2.out,HQ3.out⟩
  ·have d1:decide ((j:Int)<(l.length:Int))=false:=dF (by omega);have HC2:Hid (R=true):=HL.out.trans (by rw[drop_none hlt];rfl);have HE:=ZH (HT.out HC2.out);clear HL HF HT;go_wp2_with fail;exact bodyPost_ret (v:= .bool (decide (1≤(l.length:Int)))) (by simp[results,Tryz.results104,go_sem]) rfl ⟨by rw[HE.out],HQ.out⟩
theorem setright_any {w:World}{A:Option Addr}{c:Nat}{l:List (Int×Int)}(h:RRow w A l)(hs:l.length≤1000000):Calls Tryz.prog 59 #[.slice A l.length c] w fun e w'=>e= .returned (.bool (setB l))∧Below w.heap.size w w':=by
 have hinf:(Tryz.prog.info? 65).map (·.size)=some 2:=by kernel_rfl
 have HI:=ZH h;obtain⟨R,hR⟩:∃R,setB l=R:=⟨_,rfl⟩;have HR:Hid (R=rangesB (prevR l 0) (l.drop 0)):=hR.symm;obtain⟨T,hT⟩:∃T,setB l=T:=⟨_,rfl⟩;have HF:Hid (R=false→T=false):=fun e=>by rw[←hT];exact id (hR.trans e)
 have HT:Hid (R=true→T=true):=fun e=>by rw[←hT];exact id (hR.trans e)
 rw[hT];clear hT;clear hR h;go_enter Tryz.func59,Tryz.ntmps59;go_wp2_with fail;go_loopg [7] l.length (fun k p wr=>∃j,k=l.length-j∧j≤l.length∧p= .int .i64 (j:Nat)∧Hid (R=rangesB (prevR l j) (l.drop j))∧Hid (∀v,prevR l j=some v→withinB v=true)∧Hid (Below w.heap.size w wr))
 case atStart=>exact⟨0,rfl,Nat.zero_le _,rfl,HR.out,(fun v e=>by cases e),Below.refl _ _⟩
 case round=>
  clear HR;obtain⟨j,hk,hj,rfl,HL,HW,HQ⟩:=hrel;by_cases hlt:j<l.length
  ·have d1:decide ((j:Int)<(l.length:Int))=true:=dT (by omega);have HC:Hid (R=(rangeB (prevR l j) (l.getD j (0,0))&&rangesB (prevR l (j+1)) (l.drop (j+1)))):=HL.out.trans (ranges_step hlt);have HX:=ZH (HI.out.below HQ.out);obtain⟨g,o,rfl,cl,ch⟩:=HX.out.at hlt;obtain⟨r,hr⟩:∃r,l.getD j (0,0)=r:=⟨_,rfl⟩;rw[hr]at cl ch HC;obtain⟨lo,hi⟩:=r;have M2:=(Mem.start wr).new 65 #[.int .i64 0,.int .i64 0];have hj0:((l.getD j (0,0)).2)=hi:=by rw[hr]
   have HJ:=ZH hj0;clear HL hr hj0;go_upto_region 4 with ((with_reducible refine st_ ?_);refine wP2 _ _ (M2.k (i:=0) rfl) rfl rfl rfl rfl hinf rfl rfl ?_;intro w5 b5 g5';replace M2:=M2.row (by omega) (by simp) rfl b5 g5');clear b5 g5' cl ch;by_cases h1:hi<lo
   ·have e1:decide (hi<lo)=true:=dT h1;refine region_st (n:=33) (frame:= ?frame6) (fun jK=>[kP wr.heap.size 0,kI lo,kP wr.heap.size 1,kI hi,kB true,kB true,.none,.none,.none,.none,kB true,kB true,.none,.none,.none,.none,kB true,kB true,.none,.none,kF (undef),.none,.none,.none,.none,.none,.none,.none,.none,.none,.none,.none,kB true].getD jK .none) [] (by kernel_rfl) (by kernel_rfl) (by kernel_rfl) rfl M2 (fun _ h=>by cases h) (fun _ h=>by cases h) ?_ ?_ ?_
    case refine_1=>
     intro s;simp only[fr,Act.put,zA,zB,zC,zD,zE,zF,Nat.reduceAdd];rfl
    case refine_2=>
     iterate 33 (refine SN ?_ ?_;rotate_left)
     exact Steps.nil;all_goals (intro L s w9 hN hU hi hS K hK;dsimp only at hK⊢;simp only[Act.put,zD,zE,zF]at hK)
     ·go_simp;exact hS.o hK
     ·simp only[hS.f hN 0]at hK⊢;obtain⟨u1,u2,_,_⟩:=(hS.mem.k (i:=0) rfl).both;go_simp;exact hS.o hK
     ·go_simp;exact hS.o hK
     ·simp only[hS.f hN 2]at hK⊢;obtain⟨u1,u2,_,_⟩:=(hS.mem.k (i:=0) rfl).both;go_simp;exact hS.o hK
     ·simp only[hS.f hN 1,hS.f hN 3]at hK⊢;go_simp;exact hS.o hK
     ·simp only[hS.f hN 4]at hK⊢;go_simp;exact hS.o hK
     iterate 4 (simp only[hS.f hN 5]at hK⊢;go_simp;exact hS.u hK)
     ·simp only[hS.f hN 5]at hK⊢;go_simp;exact hS.o hK
     ·simp only[hS.f hN 10]at hK⊢;go_simp;exact hS.o hK
     iterate 4 (simp only[hS.f hN 11]at hK⊢;go_simp;exact hS.u hK)
     ·simp only[hS.f hN 11]at hK⊢;go_simp;exact hS.o hK
     ·simp only[hS.f hN 16]at hK⊢;go_simp;exact hS.o hK
     iterate 2 (simp only[hS.f hN 17]at hK⊢;go_simp;exact hS.u hK)
     ·simp only[hS.f hN 17]at hK⊢;go_simp;exact hK.out undef _ (hS.v0 rfl rfl rfl)
     iterate 10 (simp only[hS.f hN 20]at hK⊢;go_simp;exact hS.u hK)
     ·simp only[hS.f hN 17]at hK⊢;go_simp;exact hS.u hK
     ·simp only[hS.f hN 17]at hK⊢;go_simp;exact hS.o hK
    intro L s w9 hall hS;have e32:=hS.fx 32 rfl rfl (hall 32 (by decide));have q3:=hS.mem.bel;simp only[e32];have HQ3:=ZH (bT HQ.out q3);clear hS hall e32 q3;have HC2:Hid (R=false):=HC.out.trans (by rw[rangeB_1 (r:=(lo,hi)) h1];rfl);clear HC;go_wp2_with fail;exact bodyPost_ret (v:= .bool false) (by simp[results,Tryz.results59,go_sem]) rfl ⟨by rw[HF.out HC2.out],HQ3.out⟩
   ·have e1:decide (hi<lo)=false:=dF h1;cases h2:withinB lo with
    |false=>
     refine region_st (n:=33) (frame:= ?frame7) (fun jK=>[kP wr.heap.size 0,kI lo,kP wr.heap.size 1,kI hi,kB false,kB false,kP wr.heap.size 0,kI lo,kB false,kB true,kB true,kB true,.none,.none,.none,.none,kB true,kB true,.none,.none,kF (undef),.none,.none,.none,.none,.none,.none,.none,.none,.none,.none,.none,kB true].getD jK .none) [] (by kernel_rfl) (by kernel_rfl) (by kernel_rfl) rfl M2 (fun _ h=>by cases h) (fun _ h=>by cases h) ?_ ?_ ?_
     case refine_1=>
      intro s;simp only[fr,Act.put,zA,zB,zC,zD,zE,zF,Nat.reduceAdd];rfl
     case refine_2=>
      iterate 33 (refine SN ?_ ?_;rotate_left)
      exact Steps.nil;all_goals (intro L s w9 hN hU hi hS K hK;dsimp only at hK⊢;simp only[Act.put,zD,zE,zF]at hK)
      ·go_simp;exact hS.o hK
      ·simp only[hS.f hN 0]at hK⊢;obtain⟨u1,u2,_,_⟩:=(hS.mem.k (i:=0) rfl).both;go_simp;exact hS.o hK
      ·go_simp;exact hS.o hK
      ·simp only[hS.f hN 2]at hK⊢;obtain⟨u1,u2,_,_⟩:=(hS.mem.k (i:=0) rfl).both;go_simp;exact hS.o hK
      ·simp only[hS.f hN 1,hS.f hN 3]at hK⊢;go_simp;exact hS.o hK
      ·simp only[hS.f hN 4]at hK⊢;go_simp;exact hS.o hK
      ·simp only[hS.f hN 5]at hK⊢;go_simp;exact hS.o hK
      ·simp only[hS.f hN 6,hS.f hN 5]at hK⊢;obtain⟨u1,u2,_,_⟩:=(hS.mem.k (i:=0) rfl).both;go_simp;exact hS.o hK
      ·simp only[hS.f hN 7,hS.f hN 5]at hK⊢;go_simp;go_at_call 106;refine(swithin h2).mono ?_;rintro e9 w10 ⟨rfl,q⟩;exact hK.out _ _ (hS.val rfl (nSo rfl) q rfl)
      ·simp only[hS.f hN 8,hS.f hN 5]at hK⊢;go_simp;exact hS.o hK
      ·simp only[hS.f hN 5,hS.f hN 9]at hK⊢;go_simp;exact hS.o hK
      ·simp only[hS.f hN 10]at hK⊢;go_simp;exact hS.o hK
      iterate 4 (simp only[hS.f hN 11]at hK⊢;go_simp;exact hS.u hK)
      ·simp only[hS.f hN 11]at hK⊢;go_simp;exact hS.o hK
      ·simp only[hS.f hN 16]at hK⊢;go_simp;exact hS.o hK
      iterate 2 (simp only[hS.f hN 17]at hK⊢;go_simp;exact hS.u hK)
      ·simp only[hS.f hN 17]at hK⊢;go_simp;exact hK.out undef _ (hS.v0 rfl rfl rfl)
      iterate 10 (simp only[hS.f hN 20]at hK⊢;go_simp;exact hS.u hK)
      ·simp only[hS.f hN 17]at hK⊢;go_simp;exact hS.u hK
      ·simp only[hS.f hN 17]at hK⊢;go_simp;exact hS.o hK
     intro L s w9 hall hS;have e32:=hS.fx 32 rfl rfl (hall 32 (by decide));have q3:=hS.mem.bel;simp only[e32];have HQ3:=ZH (bT HQ.out q3);clear hS hall e32 q3;have HC2:Hid (R=false):=HC.out.trans (by rw[rangeB_2 (r:=(lo,hi)) h2];rfl);clear HC;go_wp2_with fail;exact bodyPost_ret (v:= .bool false) (by simp[results,Tryz.results59,go_sem]) rfl ⟨by rw[HF.out HC2.out],HQ3.out⟩
    |true=>
     cases h3:withinB hi with
     |false=>
      refine region_st (n:=33) (frame:= ?frame8) (fun jK=>[kP wr.heap.size 0,kI lo,kP wr.heap.size 1,kI hi,kB false,kB false,kP wr.heap.size 0,kI lo,kB true,kB false,kB false,kB false,kP wr.heap.size 1,kI hi,kB false,kB true,kB true,kB true,.none,.none,kF (undef),.none,.none,.none,.none,.none,.none,.none,.none,.none,.none,.none,kB true].getD jK .none) [] (by kernel_rfl) (by kernel_rfl) (by kernel_rfl) rfl M2 (fun _ h=>by cases h) (fun _ h=>by cases h) ?_ ?_ ?_
      case refine_1=>
       intro s;simp only[fr,Act.put,zA,zB,zC,zD,zE,zF,Nat.reduceAdd];rfl
      case refine_2=>
       iterate 33 (refine SN ?_ ?_;rotate_left)
       exact Steps.nil;all_goals (intro L s w9 hN hU hi hS K hK;dsimp only at hK⊢;simp only[Act.put,zD,zE,zF]at hK)
       ·go_simp;exact hS.o hK
       ·simp only[hS.f hN 0]at hK⊢;obtain⟨u1,u2,_,_⟩:=(hS.mem.k (i:=0) rfl).both;go_simp;exact hS.o hK
       ·go_simp;exact hS.o hK
       ·simp only[hS.f hN 2]at hK⊢;obtain⟨u1,u2,_,_⟩:=(hS.mem.k (i:=0) rfl).both;go_simp;exact hS.o hK
       ·simp only[hS.f hN 1,hS.f hN 3]at hK⊢;go_simp;exact hS.o hK
       ·simp only[hS.f hN 4]at hK⊢;go_simp;exact hS.o hK
       ·simp only[hS.f hN 5]at hK⊢;go_simp;exact hS.o hK
       ·simp only[hS.f hN 6,hS.f hN 5]at hK⊢;obtain⟨u1,u2,_,_⟩:=(hS.mem.k (i:=0) rfl).both;go_simp;exact hS.o hK
       ·simp only[hS.f hN 7,hS.f hN 5]at hK⊢;go_simp;go_at_call 106;refine(swithin h2).mono ?_;rintro e9 w10 ⟨rfl,q⟩;exact hK.out _ _ (hS.val rfl (nSo rfl) q rfl)
       ·simp only[hS.f hN 8,hS.f hN 5]at hK⊢;go_simp;exact hS.o hK
       ·simp only[hS.f hN 5,hS.f hN 9]at hK⊢;go_simp;exact hS.o hK
       ·simp only[hS.f hN 10]at hK⊢;go_simp;exact hS.o hK
       ·simp only[hS.f hN 11]at hK⊢;go_simp;exact hS.o hK
       ·simp only[hS.f hN 12,hS.f hN 11]at hK⊢;obtain⟨u1,u2,_,_⟩:=(hS.mem.k (i:=0) rfl).both;go_simp;exact hS.o hK
       ·simp only[hS.f hN 13,hS.f hN 11]at hK⊢;go_simp;go_at_call 106;refine(swithin h3).mono ?_;rintro e9 w10 ⟨rfl,q⟩;exact hK.out _ _ (hS.val rfl (nSo rfl) q rfl)
       ·simp only[hS.f hN 14,hS.f hN 11]at hK⊢;go_simp;exact hS.o hK
       ·simp only[hS.f hN 11,hS.f hN 15]at hK⊢;go_simp;exact hS.o hK
       ·simp only[hS.f hN 16]at hK⊢;go_simp;exact hS.o hK
       iterate 2 (simp only[hS.f hN 17]at hK⊢;go_simp;exact hS.u hK)
       ·simp only[hS.f hN 17]at hK⊢;go_simp;exact hK.out undef _ (hS.v0 rfl rfl rfl)
       iterate 10 (simp only[hS.f hN 20]at hK⊢;go_simp;exact hS.u hK)
       ·simp only[hS.f hN 17]at hK⊢;go_simp;exact hS.u hK
       ·simp only[hS.f hN 17]at hK⊢;go_simp;exact hS.o hK
      intro L s w9 hall hS;have e32:=hS.fx 32 rfl rfl (hall 32 (by decide));have q3:=hS.mem.bel;simp only[e32];have HQ3:=ZH (bT HQ.out q3);clear hS hall e32 q3;have HC2:Hid (R=false):=HC.out.trans (by rw[rangeB_3 (r:=(lo,hi)) h3];rfl);clear HC;go_wp2_with fail;exact bodyPost_ret (v:= .bool false) (by simp[results,Tryz.results59,go_sem]) rfl ⟨by rw[HF.out HC2.out],HQ3.out⟩
     |true=>
      by_cases h0:j=0
      ·subst h0;refine region_st (n:=33) (frame:= ?frame9) (fun jK=>[kP wr.heap.size 0,kI lo,kP wr.heap.size 1,kI hi,kB false,kB false,kP wr.heap.size 0,kI lo,kB true,kB false,kB false,kB false,kP wr.heap.size 1,kI hi,kB true,kB false,kB false,kB false,kI (((0:Nat):Int)),kB false,kB false,.none,.none,.none,.none,.none,.none,.none,.none,.none,.none,kB false,kB false].getD jK .none) [] (by kernel_rfl) (by kernel_rfl) (by kernel_rfl) rfl M2 (fun _ h=>by cases h) (fun _ h=>by cases h) ?_ ?_ ?_
       case refine_1=>
        intro s;simp only[fr,Act.put,zA,zB,zC,zD,zE,zF,Nat.reduceAdd];rfl
       case refine_2=>
        iterate 33 (refine SN ?_ ?_;rotate_left)
        exact Steps.nil;all_goals (intro L s w9 hN hU hi hS K hK;dsimp only at hK⊢;simp only[Act.put,zD,zE,zF]at hK)
        ·go_simp;exact hS.o hK
        ·simp only[hS.f hN 0]at hK⊢;obtain⟨u1,u2,_,_⟩:=(hS.mem.k (i:=0) rfl).both;go_simp;exact hS.o hK
        ·go_simp;exact hS.o hK
        ·simp only[hS.f hN 2]at hK⊢;obtain⟨u1,u2,_,_⟩:=(hS.mem.k (i:=0) rfl).both;go_simp;exact hS.o hK
        ·simp only[hS.f hN 1,hS.f hN 3]at hK⊢;go_simp;exact hS.o hK
        ·simp only[hS.f hN 4]at hK⊢;go_simp;exact hS.o hK
        ·simp only[hS.f hN 5]at hK⊢;go_simp;exact hS.o hK
        ·simp only[hS.f hN 6,hS.f hN 5]at hK⊢;obtain⟨u1,u2,_,_⟩:=(hS.mem.k (i:=0) rfl).both;go_simp;exact hS.o hK
        ·simp only[hS.f hN 7,hS.f hN 5]at hK⊢;go_simp;go_at_call 106;refine(swithin h2).mono ?_;rintro e9 w10 ⟨rfl,q⟩;exact hK.out _ _ (hS.val rfl (nSo rfl) q rfl)
        ·simp only[hS.f hN 8,hS.f hN 5]at hK⊢;go_simp;exact hS.o hK
        ·simp only[hS.f hN 5,hS.f hN 9]at hK⊢;go_simp;exact hS.o hK
        ·simp only[hS.f hN 10]at hK⊢;go_simp;exact hS.o hK
        ·simp only[hS.f hN 11]at hK⊢;go_simp;exact hS.o hK
        ·simp only[hS.f hN 12,hS.f hN 11]at hK⊢;obtain⟨u1,u2,_,_⟩:=(hS.mem.k (i:=0) rfl).both;go_simp;exact hS.o hK
        ·simp only[hS.f hN 13,hS.f hN 11]at hK⊢;go_simp;go_at_call 106;refine(swithin h3).mono ?_;rintro e9 w10 ⟨rfl,q⟩;exact hK.out _ _ (hS.val rfl (nSo rfl) q rfl)
        ·simp only[hS.f hN 14,hS.f hN 11]at hK⊢;go_simp;exact hS.o hK
        ·simp only[hS.f hN 11,hS.f hN 15]at hK⊢;go_simp;exact hS.o hK
        ·simp only[hS.f hN 16]at hK⊢;go_simp;exact hS.o hK
        ·simp only[hS.f hN 17]at hK⊢;go_simp;exact hS.o hK
        ·simp only[hS.f hN 18,hS.f hN 17]at hK⊢;go_simp;exact hS.o hK
        ·simp only[hS.f hN 19,hS.f hN 17]at hK⊢;go_simp;exact hS.o hK
        iterate 10 (simp only[hS.f hN 20]at hK⊢;go_simp;exact hS.u hK)
        ·simp only[hS.f hN 20,hS.f hN 17]at hK⊢;go_simp;exact hS.o hK
        ·simp only[hS.f hN 17,hS.f hN 31]at hK⊢;go_simp;exact hS.o hK
       intro L s w9 hall hS;have e32:=hS.fx 32 rfl rfl (hall 32 (by decide));have q3:=hS.mem.bel;have HC2:Hid (R=rangesB (prevR l (0+1)) (l.drop (0+1))):=HC.out.trans (by rw[show prevR l 0=none from rfl,rangeB_4 (r:=(lo,hi)) (by show lo≤hi;omega) h2 h3,Bool.true_and]);have HW2:Hid (∀v,prevR l (0+1)=some v→withinB v=true):=fun v e=>by
        rw[prev_next,HJ.out]at e;cases e;exact h3
       clear HC;simp only[e32];have HQ3:=ZH (bT HQ.out q3);clear hS hall e32 q3;go_wp2_with fail;go_roundg (l.length-(0+1))
       case measure=>omega
       case rel=>exact⟨0+1,rfl,by omega,by simp,HC2.out,HW2.out,HQ3.out⟩
      ·obtain⟨i,rfl⟩:∃i,j=i+1:=⟨j-1,by omega⟩;have hil:i<l.length:=by omega
       obtain⟨g',o',e',_,ph⟩:=HX.out.at hil;cases e';obtain⟨pv,hpv⟩:∃pv,(l.getD i (0,0)).2=pv:=⟨_,rfl⟩;rw[hpv]at ph;have PH:=Lk.of ph;have hp1:prevR l (i+1)=some pv:=by rw[prev_next,hpv]
       have w1:=within_in (HW.out pv hp1);have w2:=within_in h2;have d0:decide ((0:Int)<((i+1:Nat):Int))=true:=dT (by omega);have x1:IntKind.i64.wrap (i:Int)=(i:Int):=by rw[IntKind.wrap_i64];omega
       have x2:IntKind.i64.wrap (lo-pv)=lo-pv:=by rw[IntKind.wrap_i64];omega
       have HC3:Hid (R=(decide (2≤lo-pv)&&rangesB (prevR l (i+1+1)) (l.drop (i+1+1)))):=HC.out.trans (by rw[hp1,rangeB_5 (r:=(lo,hi)) (by show lo≤hi;omega) h2 h3]);have HW2:Hid (∀v,prevR l (i+1+1)=some v→withinB v=true):=fun v e=>by
        rw[prev_next,HJ.out]at e;cases e;exact h3
       clear ph hpv HC hp1;refine region_st (n:=33) (frame:= ?frame10) (fun jK=>[kP wr.heap.size 0,kI lo,kP wr.heap.size 1,kI hi,kB false,kB false,kP wr.heap.size 0,kI lo,kB true,kB false,kB false,kB false,kP wr.heap.size 1,kI hi,kB true,kB false,kB false,kB false,kI (((i+1:Nat):Int)),kB true,kB true,kP wr.heap.size 0,kI lo,kF (.slice (some ⟨g,o,none⟩) l.length c),kI (((i+1:Nat):Int)),kI ((i:Nat)),kP g (o+i*2),kP g (o+i*2+1),kI pv,kI ((lo-pv)),kB ((decide (lo-pv<2))),kB ((decide (lo-pv<2))),kB ((decide (lo-pv<2)))].getD jK .none) [] (by kernel_rfl) (by kernel_rfl) (by kernel_rfl) rfl M2 (fun _ h=>by cases h) (fun _ h=>by cases h) ?_ ?_ ?_
       case refine_1=>
        intro s;simp only[fr,Act.put,zA,zB,zC,zD,zE,zF,Nat.reduceAdd];rfl
       case refine_2=>
        iterate 33 (refine SN ?_ ?_;rotate_left)
        exact Steps.nil;all_goals (intro L s w9 hN hU hi hS K hK;dsimp only at hK⊢;simp only[Act.put,zD,zE,zF]at hK)
        ·go_simp;exact hS.o hK
        ·simp only[hS.f hN 0]at hK⊢;obtain⟨u1,u2,_,_⟩:=(hS.mem.k (i:=0) rfl).both;go_simp;exact hS.o hK
        ·go_simp;exact hS.o hK
        ·simp only[hS.f hN 2]at hK⊢;obtain⟨u1,u2,_,_⟩:=(hS.mem.k (i:=0) rfl).both;go_simp;exact hS.o hK
        ·simp only[hS.f hN 1,hS.f hN 3]at hK⊢;go_simp;exact hS.o hK
        ·simp only[hS.f hN 4]at hK⊢;go_simp;exact hS.o hK
        ·simp only[hS.f hN 5]at hK⊢;go_simp;exact hS.o hK
        ·simp only[hS.f hN 6,hS.f hN 5]at hK⊢;obtain⟨u1,u2,_,_⟩:=(hS.mem.k (i:=0) rfl).both;go_simp;exact hS.o hK
        ·simp only[hS.f hN 7,hS.f hN 5]at hK⊢;go_simp;go_at_call 106;refine(swithin h2).mono ?_;rintro e9 w10 ⟨rfl,q⟩;exact hK.out _ _ (hS.val rfl (nSo rfl) q rfl)
        ·simp only[hS.f hN 8,hS.f hN 5]at hK⊢;go_simp;exact hS.o hK
        ·simp only[hS.f hN 5,hS.f hN 9]at hK⊢;go_simp;exact hS.o hK
        ·simp only[hS.f hN 10]at hK⊢;go_simp;exact hS.o hK
        ·simp only[hS.f hN 11]at hK⊢;go_simp;exact hS.o hK
        ·simp only[hS.f hN 12,hS.f hN 11]at hK⊢;obtain⟨u1,u2,_,_⟩:=(hS.mem.k (i:=0) rfl).both;go_simp;exact hS.o hK
        ·simp only[hS.f hN 13,hS.f hN 11]at hK⊢;go_simp;go_at_call 106;refine(swithin h3).mono ?_;rintro e9 w10 ⟨rfl,q⟩;exact hK.out _ _ (hS.val rfl (nSo rfl) q rfl)
        ·simp only[hS.f hN 14,hS.f hN 11]at hK⊢;go_simp;exact hS.o hK
        ·simp only[hS.f hN 11,hS.f hN 15]at hK⊢;go_simp;exact hS.o hK
        ·simp only[hS.f hN 16]at hK⊢;go_simp;exact hS.o hK
        ·simp only[hS.f hN 17]at hK⊢;go_simp;exact hS.o hK
        ·simp only[hS.f hN 18,hS.f hN 17]at hK⊢;go_simp;exact hS.o hK
        ·simp only[hS.f hN 19,hS.f hN 17]at hK⊢;go_simp;exact hS.o hK
        ·simp only[hS.f hN 20]at hK⊢;go_simp;exact hS.o hK
        ·simp only[hS.f hN 21,hS.f hN 20]at hK⊢;obtain⟨u1,u2,_,_⟩:=(hS.mem.k (i:=0) rfl).both;go_simp;exact hS.o hK
        iterate 2 (simp only[hS.f hN 20]at hK⊢;go_simp;exact hS.o hK)
        ·simp only[hS.f hN 24,hS.f hN 20]at hK⊢;go_simp;exact hS.o hK
        ·simp only[hS.f hN 23,hS.f hN 25,hS.f hN 20]at hK⊢;go_simp;exact hS.o hK
        ·simp only[hS.f hN 26,hS.f hN 20]at hK⊢;go_simp;exact hS.o hK
        ·simp only[hS.f hN 27,hS.f hN 20]at hK⊢;have u0:=PH _ hS.mem.bel;go_simp;exact hS.o hK
        ·simp only[hS.f hN 22,hS.f hN 28,hS.f hN 20]at hK⊢;go_simp;exact hS.o hK
        ·simp only[hS.f hN 29,hS.f hN 20]at hK⊢;go_simp;exact hS.o hK
        ·simp only[hS.f hN 20,hS.f hN 30,hS.f hN 17]at hK⊢;go_simp;exact hS.o hK
        ·simp only[hS.f hN 17,hS.f hN 31]at hK⊢;go_simp;exact hS.o hK
       intro L s w9 hall hS;have e32:=hS.fx 32 rfl rfl (hall 32 (by decide));have q3:=hS.mem.bel;by_cases h9:lo-pv<2
       ·rw[dT h9]at e32;simp only[e32];have HQ3:=ZH (bT HQ.out q3);clear hS hall e32 q3;have HC2:Hid (R=false):=HC3.out.trans (by rw[dF (show ¬2≤lo-pv by omega)];rfl);clear HC3;go_wp2_with fail;exact bodyPost_ret (v:= .bool false) (by simp[results,Tryz.results59,go_sem]) rfl ⟨by rw[HF.out HC2.out],HQ3.out⟩
       ·rw[dF h9]at e32;have HC2:Hid (R=rangesB (prevR l (i+1+1)) (l.drop (i+1+1))):=HC3.out.trans (by rw[dT (show 2≤lo-pv by omega),Bool.true_and]);clear HC3;simp only[e32];have HQ3:=ZH (bT HQ.out q3);clear hS hall e32 q3;go_wp2_with fail;go_roundg (l.length-(i+1+1))
        case measure=>omega
        case rel=>exact⟨i+1+1,rfl,by omega,by simp,HC2.out,HW2.out,HQ3.out⟩
  ·have d1:decide ((j:Int)<(l.length:Int))=false:=dF (by omega);have HC2:Hid (R=true):=HL.out.trans (by rw[drop_none hlt];rfl);have HE:=ZH (HT.out HC2.out);clear HL HF HT;go_wp2_with fail;exact bodyPost_ret (v:= .bool (true)) (by simp[results,Tryz.results59,go_sem]) rfl ⟨by rw[HE.out],HQ.out⟩
end Go.Proofs.YtecfcjdgmpopjaaGreat

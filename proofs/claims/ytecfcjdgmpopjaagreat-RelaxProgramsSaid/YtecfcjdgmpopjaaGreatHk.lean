/-
  Joined texts: Hd, Hk.
-/
import Derived.Test.YtecfcjdgmpopjaaGreatHc
import Derived.BigQuiet
set_option maxHeartbeats 8000000
set_option maxRecDepth 100000
set_option linter.unusedSimpArgs false
set_option linter.unusedVariables false
namespace Go.Proofs.YtecfcjdgmpopjaaGreat
open Go.RowKit Num
theorem rsigns_any {w:World}{A:Option Addr}{c:Nat}{l:List Int}(h:IRow w A l)(hs:l.length≤1000000):Calls Tryz.prog 162 #[.slice A l.length c] w fun e w'=>e= .returned (.bool (l.all unitB))∧Below w.heap.size w w':=by
 have HI:=ZH h;obtain⟨R,hR⟩:∃R,l.all unitB=R:=⟨_,rfl⟩;rw[hR];have HR:Hid (R=(l.drop 0).all unitB):=hR.symm;clear hR h;go_enter Tryz.func162,Tryz.ntmps162;go_wp2_with fail;go_loopg [3] l.length (fun k p wr=>∃j,k=l.length-j∧j≤l.length∧p= .int .i64 (j:Nat)∧Hid (R=(l.drop j).all unitB)∧Hid (Below w.heap.size w wr))
 case atStart=>exact⟨0,rfl,Nat.zero_le _,rfl,HR.out,Below.refl _ _⟩
 case round=>
  clear HR;obtain⟨j,hk,hj,rfl,HL,HQ⟩:=hrel;by_cases hlt:j<l.length;rotate_left
  ·have d1:decide ((j:Int)<(l.length:Int))=false:=dF (by omega);have HC2:Hid (R=true):=HL.out.trans (by rw[drop_none hlt];rfl);clear HL;go_wp2_with fail;exact bodyPost_ret (v:= .bool true) (by simp[results,Tryz.results162,go_sem]) rfl ⟨by rw[HC2.out],HQ.out⟩
  have d1:decide ((j:Int)<(l.length:Int))=true:=dT (by omega);have HC:Hid (R=(List.all [l.getD j 0] unitB&&(l.drop (j+1)).all unitB)):=HL.out.trans (by rw[drop_at (z:=0) hlt,List.all_cons,List.all_cons,List.all_nil,Bool.and_true]);obtain⟨gl,ol,rfl,cj⟩:=(HI.out.below HQ.out) j hlt;replace cj:wr.cell? ⟨gl,ol+j,none⟩=some (.int .i64 (l.getD j 0)):=cj;generalize l.getD j 0=z at*;clear HL;by_cases z1:z=1
  ·have d2:(z !=1)=false:=by rw[z1];rfl
   have hp:List.all [z] unitB=true:=by rw[z1];rfl
   have HC2:Hid (R=(l.drop (j+1)).all unitB):=HC.out.trans (by rw[hp,Bool.true_and]);clear HC hp;go_wp2_with fail;go_roundg (l.length-(j+1))
   case measure=>omega
   case rel=>exact⟨j+1,rfl,by omega,by simp,HC2.out,HQ.out⟩
  ·have d2:(z !=1)=true:=bne_iff_ne.2 z1;by_cases z2:z= -1
   ·have d3:(z != -1)=false:=by rw[z2];rfl
    have hp:List.all [z] unitB=true:=by rw[z2];rfl
    have HC2:Hid (R=(l.drop (j+1)).all unitB):=HC.out.trans (by rw[hp,Bool.true_and]);clear HC hp;go_wp2_with fail;go_roundg (l.length-(j+1))
    case measure=>omega
    case rel=>exact⟨j+1,rfl,by omega,by simp,HC2.out,HQ.out⟩
   ·have d3:(z != -1)=true:=bne_iff_ne.2 z2;have hp:List.all [z] unitB=false:=by
     show((z==1||z== -1)&&true)=false;rw[beq_false_of_ne z1,beq_false_of_ne z2];rfl
    have HE:Hid (R=false):=HC.out.trans (by rw[hp,Bool.false_and]);clear HC hp;go_wp2_with fail;exact bodyPost_ret (v:= .bool false) (by simp[results,Tryz.results162,go_sem]) rfl ⟨by rw[HE.out],HQ.out⟩
theorem rnone_any {w:World}{A:Option Addr}{c:Nat}{l:List Int}(h:IRow w A l)(hs:l.length≤1000000):Calls Tryz.prog 163 #[.slice A l.length c] w fun e w'=>e= .returned (.bool (l.all (fun a=>decide (0≤a))))∧Below w.heap.size w w':=by
 have HI:=ZH h;obtain⟨R,hR⟩:∃R,l.all (fun a=>decide (0≤a))=R:=⟨_,rfl⟩;rw[hR];have HR:Hid (R=(l.drop 0).all (fun a=>decide (0≤a))):=hR.symm;clear hR h;go_enter Tryz.func163,Tryz.ntmps163;go_wp2_with fail;go_loopg [3] l.length (fun k p wr=>∃j,k=l.length-j∧j≤l.length∧p= .int .i64 (j:Nat)∧Hid (R=(l.drop j).all (fun a=>decide (0≤a)))∧Hid (Below w.heap.size w wr))
 case atStart=>exact⟨0,rfl,Nat.zero_le _,rfl,HR.out,Below.refl _ _⟩
 case round=>
  clear HR;obtain⟨j,hk,hj,rfl,HL,HQ⟩:=hrel;by_cases hlt:j<l.length;rotate_left
  ·have d1:decide ((j:Int)<(l.length:Int))=false:=dF (by omega);have HC2:Hid (R=true):=HL.out.trans (by rw[drop_none hlt];rfl);clear HL;go_wp2_with fail;exact bodyPost_ret (v:= .bool true) (by simp[results,Tryz.results163,go_sem]) rfl ⟨by rw[HC2.out],HQ.out⟩
  have d1:decide ((j:Int)<(l.length:Int))=true:=dT (by omega);have HC:Hid (R=(List.all [l.getD j 0] (fun a=>decide (0≤a))&&(l.drop (j+1)).all (fun a=>decide (0≤a)))):=HL.out.trans (by rw[drop_at (z:=0) hlt,List.all_cons,List.all_cons,List.all_nil,Bool.and_true]);obtain⟨gl,ol,rfl,cj⟩:=(HI.out.below HQ.out) j hlt;replace cj:wr.cell? ⟨gl,ol+j,none⟩=some (.int .i64 (l.getD j 0)):=cj;generalize l.getD j 0=z at*;clear HL;by_cases z1:z<0
  ·have d2:decide (z<0)=true:=dT z1;have hp:List.all [z] (fun a=>decide (0≤a))=false:=by
    show(decide (0≤z)&&true)=false;rw[dF (show ¬0≤z by omega)];rfl
   have HE:Hid (R=false):=HC.out.trans (by rw[hp,Bool.false_and]);clear HC hp;go_wp2_with fail;exact bodyPost_ret (v:= .bool false) (by simp[results,Tryz.results163,go_sem]) rfl ⟨by rw[HE.out],HQ.out⟩
  ·have d2:decide (z<0)=false:=dF z1;have hp:List.all [z] (fun a=>decide (0≤a))=true:=by
    show(decide (0≤z)&&true)=true;rw[dT (show 0≤z by omega)];rfl
   have HC2:Hid (R=(l.drop (j+1)).all (fun a=>decide (0≤a))):=HC.out.trans (by rw[hp,Bool.true_and]);clear HC hp;go_wp2_with fail;go_roundg (l.length-(j+1))
   case measure=>omega
   case rel=>exact⟨j+1,rfl,by omega,by simp,HC2.out,HQ.out⟩
theorem rtruth_any {w:World}{A:Option Addr}{c:Nat}{l:List (Int×Int)}(h:RRow w A l)(hs:l.length≤1000000):Calls Tryz.prog 112 #[.slice A l.length c] w fun e w'=>e= .returned (.bool (truthB l))∧Below w.heap.size w w':=by
 cases l with
 |nil=>
  go_enter Tryz.func112,Tryz.ntmps112;go_wp2_with fail;exact bodyPost_ret (v:= .bool false) (by simp[results,Tryz.results112,go_sem]) rfl ⟨rfl,Below.refl _ _⟩
 |cons r l=>
  obtain⟨g,o,rfl,c0,_⟩:=h.at (j:=0) (by simp);obtain⟨g',o',e',_,c1⟩:=h.at (j:=l.length) (by simp);cases e';have e0:truthB (r::l)=(decide (0≤r.1)&&decide (((r::l).getD l.length (0,0)).2≤1)):=by
   show(decide (0≤r.1)&&decide (((r::l).getLast (by simp)).2≤1))=_;rw[List.getLast_eq_getElem,gE,gG (by simp)];rfl
  rw[e0];replace c0:w.cell? ⟨g,o,none⟩=some (.int .i64 r.1):=by simpa using c0
  rw[List.length_cons]at hs⊢;generalize ((r::l).getD l.length (0,0)).2=hi at*;generalize r.1=lo at*;generalize l.length=n at*;clear h e0;have d0:decide ((0:Int)<((n+1:Nat):Int))=true:=dT (by omega);by_cases h1:0≤lo
  ·have d1:decide (0≤lo)=true:=dT h1;have d2:decide (hi≤1)=decide (hi≤1):=rfl;go_enter Tryz.func112,Tryz.ntmps112;go_wp2_with fail;exact bodyPost_ret (v:= .bool (decide (hi≤1))) (by simp[results,Tryz.results112,go_sem]) rfl ⟨rfl,Below.refl _ _⟩
  ·have d1:decide (0≤lo)=false:=dF h1;go_enter Tryz.func112,Tryz.ntmps112;go_wp2_with fail;exact bodyPost_ret (v:= .bool false) (by simp[results,Tryz.results112,go_sem]) rfl ⟨rfl,Below.refl _ _⟩
theorem rnamed_any (k:Int)(w:World):Calls Tryz.prog 111 #[.int .i64 k] w fun e w'=>e= .returned (.bool (namedD k))∧Below w.heap.size w w':=by
 by_cases h1:1≤k
 ·have d1:decide (1≤k)=true:=dT h1;by_cases h2:k≤6
  ·have d2:decide (k≤6)=true:=dT h2;have e:namedD k=true:=by unfold namedD;rw[d1,d2];rfl
   rw[e];go_enter Tryz.func111,Tryz.ntmps111;go_wp2_with fail;exact bodyPost_ret (v:= .bool true) (by simp[results,Tryz.results111,go_sem]) rfl ⟨rfl,Below.refl _ _⟩
  ·have d2:decide (k≤6)=false:=dF h2;have e:namedD k=(k==19):=by unfold namedD;rw[d1,d2];exact Bool.false_or _
   rw[e];go_enter Tryz.func111,Tryz.ntmps111;go_wp2_with fail;exact bodyPost_ret (v:= .bool (k==19)) (by simp[results,Tryz.results111,go_sem]) rfl ⟨rfl,Below.refl _ _⟩
 ·have d1:decide (1≤k)=false:=dF h1;have e:namedD k=(k==19):=by unfold namedD;rw[d1];exact Bool.false_or _
  rw[e];go_enter Tryz.func111,Tryz.ntmps111;go_wp2_with fail;exact bodyPost_ret (v:= .bool (k==19)) (by simp[results,Tryz.results111,go_sem]) rfl ⟨rfl,Below.refl _ _⟩
theorem rtruths_any {w:World}{a:Mp}{m:Md}{A:Option Addr}{c:Nat}{l:List Int}(hd:DsAt w a.doms.1 a.ds m.doms)(hdz:∀i,i<m.doms.length→(m.doms.getD i []).length≤1000)(h:IRow w A l)(hs:l.length≤1000000)(hin:∀y∈l,0≤y∧y<m.doms.length):Calls Tryz.prog 113 #[.agg (mdC a m),.slice A l.length c] w fun e w'=>e= .returned (.bool (l.all (truthD m.doms)))∧Below w.heap.size w w':=by
 have HI:=ZH h;have HD:=ZH hd;have HDZ:=ZH hdz;have HIN:=ZH hin;have M:=(Mem.start w).new 25 (mdC a m);obtain⟨R,hR⟩:∃R,l.all (truthD m.doms)=R:=⟨_,rfl⟩;rw[hR];have HR:Hid (R=(l.drop 0).all (truthD m.doms)):=hR.symm;clear hR h hd hdz hin;go_enter Tryz.func113,Tryz.ntmps113;go_wp2_with fail;go_loopg [5] l.length (fun k p wr=>∃j,k=l.length-j∧j≤l.length∧p= .int .i64 (j:Nat)∧Hid (R=(l.drop j).all (truthD m.doms))∧Hid (Mem w wr [(w.heap.size,25,mdC a m)] []))
 case atStart=>exact⟨0,rfl,Nat.zero_le _,rfl,HR.out,M⟩
 case round=>
  clear HR M;obtain⟨j,hk,hj,rfl,HL,HM⟩:=hrel;have HQ:=ZH HM.out.bel;by_cases hlt:j<l.length
  ·have d1:decide ((j:Int)<(l.length:Int))=true:=dT (by omega);have HC:Hid (R=(truthD m.doms (l.getD j 0)&&(l.drop (j+1)).all (truthD m.doms))):=HL.out.trans (by rw[drop_at (z:=0) hlt,List.all_cons]);have hi:0≤l.getD j 0∧l.getD j 0<m.doms.length:=by
    rw[gE,gG hlt];exact HIN.out _ (List.getElem_mem hlt)
   obtain⟨gl,ol,rfl,cj⟩:=(HI.out.below HQ.out) j hlt;replace cj:wr.cell? ⟨gl,ol+j,none⟩=some (.int .i64 (l.getD j 0)):=cj;generalize l.getD j 0=z at*;obtain⟨n,rfl⟩:=Int.eq_ofNat_of_zero_le hi.1;have hn:n<m.doms.length:=by omega
   have HT:Hid (truthD m.doms (n:Int)=truthB (m.doms.getD n [])):=by
    show _=_;unfold truthD;rw[show((n:Int)).toNat=n from rfl,gG hn,gE,gG hn];rfl
   obtain⟨gd,od,hda,cd⟩:=(HD.out.below HQ.out).ap n hn;replace cd:wr.cell? ⟨gd,od+n,none⟩=some (.slice (a.ds.getD n ad0).1 (m.doms.getD n []).length (a.ds.getD n ad0).2):=cd;have HRR:=ZH ((HD.out.below HQ.out).ar n hn);have hrl:=HDZ.out n hn;obtain⟨m0,m1,m2,m3⟩:=(HM.out.k (i:=0) rfl).four;rw[hda]at m0;have CJ:=Lk.of cj;have CD:=Lk.of cd;have C0:=Lk.of m0;generalize (a.ds.getD n ad0).1=DA at*;generalize (a.ds.getD n ad0).2=dc at*;generalize m.doms.getD n []=row at*;have M2:=Mem.start wr;clear HL cj cd m0 m1 m2 m3 hda;go_upto_region 4 with fail;refine region_st (n:=10) (frame:= ?frame1) (fun jK=>[kP w.heap.size 0,kF (.slice (some ⟨gd,od,none⟩) m.doms.length a.doms.2),kF (.slice (some ⟨gl,ol,none⟩) l.length c),kI ((j:Nat)),kP gl (ol+j),kI ((n:Nat)),kP gd (od+n),kF (.slice DA row.length dc),kB ((truthB row)),kB ((!(truthB row)))].getD jK .none) [] (by kernel_rfl) (by kernel_rfl) (by kernel_rfl) rfl M2 (fun _ h=>by cases h) (fun _ h=>by cases h) ?_ ?_ ?_
   case refine_1=>
    intro s;simp only[fr,Act.put,zA,zB,zC,zD,zE,zF,Nat.reduceAdd];rfl
   case refine_2=>
    iterate 10 (refine SN ?_ ?_;rotate_left)
    exact Steps.nil;all_goals (intro L s w9 hN hU hi hS K hK;dsimp only at hK⊢;simp only[Act.put,zD,zE,zF]at hK)
    ·go_simp;exact hS.o hK
    ·simp only[hS.f hN 0]at hK⊢;have u0:=C0 _ hS.mem.bel;go_simp;exact hS.o hK
    iterate 2 (go_simp;exact hS.o hK)
    ·simp only[hS.f hN 2,hS.f hN 3]at hK⊢;go_simp;exact hS.o hK
    ·simp only[hS.f hN 4]at hK⊢;have u0:=CJ _ hS.mem.bel;go_simp;exact hS.o hK
    ·simp only[hS.f hN 1,hS.f hN 5]at hK⊢;go_simp;exact hS.o hK
    ·simp only[hS.f hN 6]at hK⊢;have u0:=CD _ hS.mem.bel;go_simp;exact hS.o hK
    ·simp only[hS.f hN 7]at hK⊢;go_simp;go_at_call 112;refine(rtruth_any (HRR.out.below hS.mem.bel) (by omega)).mono ?_;rintro e9 w10 ⟨rfl,q⟩;exact hK.out _ _ (hS.val rfl (nSo rfl) q rfl)
    ·simp only[hS.f hN 8]at hK⊢;go_simp;exact hS.o hK
   intro L s w9 hall hS;have e9:=hS.fx 9 rfl rfl (hall 9 (by decide));have q3:=hS.mem.bel;have HM3:=ZH (HM.out.below q3);have HQ3:=ZH (bT HQ.out q3);simp only[e9];clear hS hall e9 q3;cases htr:truthB row with
   |false=>
    have HE:Hid (R=false):=HC.out.trans (by rw[HT.out,htr];rfl);clear HC HT htr;go_wp2_with fail;exact bodyPost_ret (v:= .bool false) (by simp[results,Tryz.results113,go_sem]) rfl ⟨by rw[HE.out],HQ3.out⟩
   |true=>
    have HC2:Hid (R=(l.drop (j+1)).all (truthD m.doms)):=HC.out.trans (by rw[HT.out,htr];rfl);clear HC HT htr;go_wp2_with fail;go_roundg (l.length-(j+1))
    case measure=>omega
    case rel=>exact⟨j+1,rfl,by omega,by simp,HC2.out,HM3.out⟩
  ·have d1:decide ((j:Int)<(l.length:Int))=false:=dF (by omega);have HC2:Hid (R=true):=HL.out.trans (by rw[drop_none hlt];rfl);clear HL;go_wp2_with fail;exact bodyPost_ret (v:= .bool true) (by simp[results,Tryz.results113,go_sem]) rfl ⟨by rw[HC2.out],HQ.out⟩
set_option maxHeartbeats 16000000
theorem below_dr {B:Nat}{a w:World}(h:Below B a w)(n:Nat):Below B a (w.drewN n):=h.trans ⟨rfl,rfl,rfl,Nat.le_refl _,fun _ _=>rfl⟩
theorem rshape_any {w:World}{x a:Adr}{c:Cn}(h:CnAt w x a c)(hx:c.x.length≤1000)(ha:c.a.length≤1000):Calls Tryz.prog 110 #[.agg (cnC x a c)] w fun e w'=>e= .returned (.bool (shapeD c))∧Below w.heap.size w w':=by
 have M:=(Mem.start w).new 69 (cnC x a c);obtain⟨f0,f1,f2,f3⟩:=(M.k (i:=0) rfl).four;have HQ:=ZH M.bel;have HSG:=ZH (fun(w':World)(q:Below w.heap.size w w')=>rsigns_any (c:=a.2) (h.a.below q) (by omega));have HNO:=ZH (fun(w':World)(q:Below w.heap.size w w')=>rnone_any (c:=a.2) (h.a.below q) (by omega));obtain⟨R,hR⟩:∃R,shapeD c=R:=⟨_,rfl⟩;rw[hR];have HR:Hid (R=shapeD c):=hR.symm;unfold shapeD at HR;clear hR h M;obtain⟨k,xx,aa,cc⟩:=c;obtain⟨xA,xc⟩:=x;obtain⟨aA,ac⟩:=a;dsimp only at*;generalize hxl:xx.length=xl at*;generalize hal:aa.length=al at*;clear hxl hal;by_cases k1:k=1
 ·subst k1;have HR1:Hid (R=decide (xl=al)):=HR.out.trans rfl;clear HR;rename Hid (R=decide (xl=al))=>HR;have d1:((xl:Int)==(al:Int))=R:=by
   rw[HR.out];exact Bool.eq_iff_iff.2 (by simp only[beq_iff_eq,decide_eq_true_eq];omega)
  clear HR HSG HNO;go_enter Tryz.func110,Tryz.ntmps110;go_wp2_with fail;go_quiet (fail);go_wp2_with fail;exact bodyPost_ret (v:= .bool R) (by simp[results,Tryz.results110,go_sem]) rfl ⟨rfl,below_dr HQ.out _⟩
 by_cases k2:k=2
 ·subst k2;have HR1:Hid (R=decide (xl=al)):=HR.out.trans rfl;clear HR;rename Hid (R=decide (xl=al))=>HR;have d1:((xl:Int)==(al:Int))=R:=by
   rw[HR.out];exact Bool.eq_iff_iff.2 (by simp only[beq_iff_eq,decide_eq_true_eq];omega)
  clear HR HSG HNO;go_enter Tryz.func110,Tryz.ntmps110;go_wp2_with fail;go_quiet (fail);go_wp2_with fail;exact bodyPost_ret (v:= .bool R) (by simp[results,Tryz.results110,go_sem]) rfl ⟨rfl,below_dr HQ.out _⟩
 by_cases k3:k=3
 ·subst k3;have HR1:Hid (R=decide (xl=al)):=HR.out.trans rfl;clear HR;rename Hid (R=decide (xl=al))=>HR;have d1:((xl:Int)==(al:Int))=R:=by
   rw[HR.out];exact Bool.eq_iff_iff.2 (by simp only[beq_iff_eq,decide_eq_true_eq];omega)
  clear HR HSG HNO;go_enter Tryz.func110,Tryz.ntmps110;go_wp2_with fail;go_quiet (fail);go_wp2_with fail;exact bodyPost_ret (v:= .bool R) (by simp[results,Tryz.results110,go_sem]) rfl ⟨rfl,below_dr HQ.out _⟩
 by_cases k4:k=4
 ·subst k4;have HR1:Hid (R=decide (xl=al+1)):=HR.out.trans rfl;clear HR;rename Hid (R=decide (xl=al+1))=>HR;have d1:((xl:Int)==(al:Int)+1)=R:=by
   rw[HR.out];exact Bool.eq_iff_iff.2 (by simp only[beq_iff_eq,decide_eq_true_eq];omega)
  clear HR HSG HNO;go_enter Tryz.func110,Tryz.ntmps110;go_wp2_with fail;go_quiet (fail);go_wp2_with fail;exact bodyPost_ret (v:= .bool R) (by simp[results,Tryz.results110,go_sem]) rfl ⟨rfl,below_dr HQ.out _⟩
 by_cases k5:k=5
 ·subst k5;have HR1:Hid (R=decide (xl=al+1)):=HR.out.trans rfl;clear HR;rename Hid (R=decide (xl=al+1))=>HR;have d1:((xl:Int)==(al:Int)+1)=R:=by
   rw[HR.out];exact Bool.eq_iff_iff.2 (by simp only[beq_iff_eq,decide_eq_true_eq];omega)
  clear HR HSG HNO;go_enter Tryz.func110,Tryz.ntmps110;go_wp2_with fail;go_quiet (fail);go_wp2_with fail;exact bodyPost_ret (v:= .bool R) (by simp[results,Tryz.results110,go_sem]) rfl ⟨rfl,below_dr HQ.out _⟩
 by_cases k6:k=6
 ·subst k6;have HR1:Hid (R=decide (xl=al+1)):=HR.out.trans rfl;clear HR;rename Hid (R=decide (xl=al+1))=>HR;have d1:((xl:Int)==(al:Int)+1)=R:=by
   rw[HR.out];exact Bool.eq_iff_iff.2 (by simp only[beq_iff_eq,decide_eq_true_eq];omega)
  clear HR HSG HNO;go_enter Tryz.func110,Tryz.ntmps110;go_wp2_with fail;go_quiet (fail);go_wp2_with fail;exact bodyPost_ret (v:= .bool R) (by simp[results,Tryz.results110,go_sem]) rfl ⟨rfl,below_dr HQ.out _⟩
 by_cases k7:k=7
 ·subst k7;have HR1:Hid (R=(decide (xl=3)&&decide (al=0))):=HR.out.trans rfl;clear HR;rename Hid (R=(decide (xl=3)&&decide (al=0)))=>HR;by_cases c1:xl=3
  ·have HR1:Hid (R=decide (al=0)):=HR.out.trans (by rw[dT c1,Bool.true_and]);have d1:((xl:Int)==3)=true:=by simp only[beq_iff_eq,decide_eq_true_eq];omega
   clear HR c1;rename Hid (R=decide (al=0))=>HR;have d2:((al:Int)==0)=R:=by
    rw[HR.out];exact Bool.eq_iff_iff.2 (by simp only[beq_iff_eq,decide_eq_true_eq];omega)
   clear HR HSG HNO;go_enter Tryz.func110,Tryz.ntmps110;go_wp2_with fail;go_quiet (fail);go_wp2_with fail;exact bodyPost_ret (v:= .bool R) (by simp[results,Tryz.results110,go_sem]) rfl ⟨rfl,below_dr HQ.out _⟩
  ·have HE:Hid (R=false):=HR.out.trans (by rw[dF c1,Bool.false_and]);have d1:((xl:Int)==3)=false:=Bool.eq_false_iff.2 (by simp only[ne_eq,beq_iff_eq,decide_eq_true_eq];omega);clear HR c1 HSG HNO;go_enter Tryz.func110,Tryz.ntmps110;go_wp2_with fail;go_quiet (fail);go_wp2_with fail;exact bodyPost_ret (v:= .bool false) (by simp[results,Tryz.results110,go_sem]) rfl ⟨by rw[HE.out],below_dr HQ.out _⟩
 by_cases k8:k=8
 ·subst k8;have HR1:Hid (R=(decide (xl=3)&&decide (al=0))):=HR.out.trans rfl;clear HR;rename Hid (R=(decide (xl=3)&&decide (al=0)))=>HR;by_cases c1:xl=3
  ·have HR1:Hid (R=decide (al=0)):=HR.out.trans (by rw[dT c1,Bool.true_and]);have d1:((xl:Int)==3)=true:=by simp only[beq_iff_eq,decide_eq_true_eq];omega
   clear HR c1;rename Hid (R=decide (al=0))=>HR;have d2:((al:Int)==0)=R:=by
    rw[HR.out];exact Bool.eq_iff_iff.2 (by simp only[beq_iff_eq,decide_eq_true_eq];omega)
   clear HR HSG HNO;go_enter Tryz.func110,Tryz.ntmps110;go_wp2_with fail;go_quiet (fail);go_wp2_with fail;exact bodyPost_ret (v:= .bool R) (by simp[results,Tryz.results110,go_sem]) rfl ⟨rfl,below_dr HQ.out _⟩
  ·have HE:Hid (R=false):=HR.out.trans (by rw[dF c1,Bool.false_and]);have d1:((xl:Int)==3)=false:=Bool.eq_false_iff.2 (by simp only[ne_eq,beq_iff_eq,decide_eq_true_eq];omega);clear HR c1 HSG HNO;go_enter Tryz.func110,Tryz.ntmps110;go_wp2_with fail;go_quiet (fail);go_wp2_with fail;exact bodyPost_ret (v:= .bool false) (by simp[results,Tryz.results110,go_sem]) rfl ⟨by rw[HE.out],below_dr HQ.out _⟩
 by_cases k9:k=9
 ·subst k9;have HR1:Hid (R=(decide (xl=3)&&decide (al=0))):=HR.out.trans rfl;clear HR;rename Hid (R=(decide (xl=3)&&decide (al=0)))=>HR;by_cases c1:xl=3
  ·have HR1:Hid (R=decide (al=0)):=HR.out.trans (by rw[dT c1,Bool.true_and]);have d1:((xl:Int)==3)=true:=by simp only[beq_iff_eq,decide_eq_true_eq];omega
   clear HR c1;rename Hid (R=decide (al=0))=>HR;have d2:((al:Int)==0)=R:=by
    rw[HR.out];exact Bool.eq_iff_iff.2 (by simp only[beq_iff_eq,decide_eq_true_eq];omega)
   clear HR HSG HNO;go_enter Tryz.func110,Tryz.ntmps110;go_wp2_with fail;go_quiet (fail);go_wp2_with fail;exact bodyPost_ret (v:= .bool R) (by simp[results,Tryz.results110,go_sem]) rfl ⟨rfl,below_dr HQ.out _⟩
  ·have HE:Hid (R=false):=HR.out.trans (by rw[dF c1,Bool.false_and]);have d1:((xl:Int)==3)=false:=Bool.eq_false_iff.2 (by simp only[ne_eq,beq_iff_eq,decide_eq_true_eq];omega);clear HR c1 HSG HNO;go_enter Tryz.func110,Tryz.ntmps110;go_wp2_with fail;go_quiet (fail);go_wp2_with fail;exact bodyPost_ret (v:= .bool false) (by simp[results,Tryz.results110,go_sem]) rfl ⟨by rw[HE.out],below_dr HQ.out _⟩
 by_cases k10:k=10
 ·subst k10;have HR1:Hid (R=(decide (xl=2)&&decide (al=0))):=HR.out.trans rfl;clear HR;rename Hid (R=(decide (xl=2)&&decide (al=0)))=>HR;by_cases c1:xl=2
  ·have HR1:Hid (R=decide (al=0)):=HR.out.trans (by rw[dT c1,Bool.true_and]);have d1:((xl:Int)==2)=true:=by simp only[beq_iff_eq,decide_eq_true_eq];omega
   clear HR c1;rename Hid (R=decide (al=0))=>HR;have d2:((al:Int)==0)=R:=by
    rw[HR.out];exact Bool.eq_iff_iff.2 (by simp only[beq_iff_eq,decide_eq_true_eq];omega)
   clear HR HSG HNO;go_enter Tryz.func110,Tryz.ntmps110;go_wp2_with fail;go_quiet (fail);go_wp2_with fail;exact bodyPost_ret (v:= .bool R) (by simp[results,Tryz.results110,go_sem]) rfl ⟨rfl,below_dr HQ.out _⟩
  ·have HE:Hid (R=false):=HR.out.trans (by rw[dF c1,Bool.false_and]);have d1:((xl:Int)==2)=false:=Bool.eq_false_iff.2 (by simp only[ne_eq,beq_iff_eq,decide_eq_true_eq];omega);clear HR c1 HSG HNO;go_enter Tryz.func110,Tryz.ntmps110;go_wp2_with fail;go_quiet (fail);go_wp2_with fail;exact bodyPost_ret (v:= .bool false) (by simp[results,Tryz.results110,go_sem]) rfl ⟨by rw[HE.out],below_dr HQ.out _⟩
 by_cases k11:k=11
 ·subst k11;have HR1:Hid (R=(decide (xl=al)&&aa.all unitB)):=HR.out.trans rfl;clear HR;rename Hid (R=(decide (xl=al)&&aa.all unitB))=>HR;by_cases c1:xl=al
  ·have HR1:Hid (R=aa.all unitB):=HR.out.trans (by rw[dT c1,Bool.true_and]);have d1:((xl:Int)==(al:Int))=true:=by simp only[beq_iff_eq,decide_eq_true_eq];omega
   clear HR c1;rename Hid (R=aa.all unitB)=>HR;have HCL:=ZH (fun(w':World)(q:Below w.heap.size w w')=>by have:=HSG.out w' q;rw[←HR.out]at this;exact this);clear HSG HNO HR;go_enter Tryz.func110,Tryz.ntmps110;go_wp2_with fail;go_quiet (fail);go_wp2_with fail;refine(HCL.out _ (below_dr HQ.out _)).mono ?_;rintro e w1 ⟨rfl,q1⟩;have HQ1:=ZH (bT (below_dr HQ.out _) q1);clear q1;go_wp2_with fail;exact bodyPost_ret (v:= .bool R) (by simp[results,Tryz.results110,go_sem]) rfl ⟨rfl,HQ1.out⟩
  ·have HE:Hid (R=false):=HR.out.trans (by rw[dF c1,Bool.false_and]);have d1:((xl:Int)==(al:Int))=false:=Bool.eq_false_iff.2 (by simp only[ne_eq,beq_iff_eq,decide_eq_true_eq];omega);clear HR c1 HSG HNO;go_enter Tryz.func110,Tryz.ntmps110;go_wp2_with fail;go_quiet (fail);go_wp2_with fail;exact bodyPost_ret (v:= .bool false) (by simp[results,Tryz.results110,go_sem]) rfl ⟨by rw[HE.out],below_dr HQ.out _⟩
 by_cases k12:k=12
 ·subst k12;have HR1:Hid (R=(decide (1≤xl)&&decide (al=0))):=HR.out.trans rfl;clear HR;rename Hid (R=(decide (1≤xl)&&decide (al=0)))=>HR;by_cases c1:1≤xl
  ·have HR1:Hid (R=decide (al=0)):=HR.out.trans (by rw[dT c1,Bool.true_and]);have d1:decide (1≤(xl:Int))=true:=by simp only[beq_iff_eq,decide_eq_true_eq];omega
   clear HR c1;rename Hid (R=decide (al=0))=>HR;have d2:((al:Int)==0)=R:=by
    rw[HR.out];exact Bool.eq_iff_iff.2 (by simp only[beq_iff_eq,decide_eq_true_eq];omega)
   clear HR HSG HNO;go_enter Tryz.func110,Tryz.ntmps110;go_wp2_with fail;go_quiet (fail);go_wp2_with fail;exact bodyPost_ret (v:= .bool R) (by simp[results,Tryz.results110,go_sem]) rfl ⟨rfl,below_dr HQ.out _⟩
  ·have HE:Hid (R=false):=HR.out.trans (by rw[dF c1,Bool.false_and]);have d1:decide (1≤(xl:Int))=false:=Bool.eq_false_iff.2 (by simp only[ne_eq,beq_iff_eq,decide_eq_true_eq];omega);clear HR c1 HSG HNO;go_enter Tryz.func110,Tryz.ntmps110;go_wp2_with fail;go_quiet (fail);go_wp2_with fail;exact bodyPost_ret (v:= .bool false) (by simp[results,Tryz.results110,go_sem]) rfl ⟨by rw[HE.out],below_dr HQ.out _⟩
 by_cases k13:k=13
 ·subst k13;have HR1:Hid (R=(decide (1≤xl)&&decide (al=0))):=HR.out.trans rfl;clear HR;rename Hid (R=(decide (1≤xl)&&decide (al=0)))=>HR;by_cases c1:1≤xl
  ·have HR1:Hid (R=decide (al=0)):=HR.out.trans (by rw[dT c1,Bool.true_and]);have d1:decide (1≤(xl:Int))=true:=by simp only[beq_iff_eq,decide_eq_true_eq];omega
   clear HR c1;rename Hid (R=decide (al=0))=>HR;have d2:((al:Int)==0)=R:=by
    rw[HR.out];exact Bool.eq_iff_iff.2 (by simp only[beq_iff_eq,decide_eq_true_eq];omega)
   clear HR HSG HNO;go_enter Tryz.func110,Tryz.ntmps110;go_wp2_with fail;go_quiet (fail);go_wp2_with fail;exact bodyPost_ret (v:= .bool R) (by simp[results,Tryz.results110,go_sem]) rfl ⟨rfl,below_dr HQ.out _⟩
  ·have HE:Hid (R=false):=HR.out.trans (by rw[dF c1,Bool.false_and]);have d1:decide (1≤(xl:Int))=false:=Bool.eq_false_iff.2 (by simp only[ne_eq,beq_iff_eq,decide_eq_true_eq];omega);clear HR c1 HSG HNO;go_enter Tryz.func110,Tryz.ntmps110;go_wp2_with fail;go_quiet (fail);go_wp2_with fail;exact bodyPost_ret (v:= .bool false) (by simp[results,Tryz.results110,go_sem]) rfl ⟨by rw[HE.out],below_dr HQ.out _⟩
 by_cases k14:k=14
 ·subst k14;have HR1:Hid (R=(decide (xl=3)&&decide (al=0))):=HR.out.trans rfl;clear HR;rename Hid (R=(decide (xl=3)&&decide (al=0)))=>HR;by_cases c1:xl=3
  ·have HR1:Hid (R=decide (al=0)):=HR.out.trans (by rw[dT c1,Bool.true_and]);have d1:((xl:Int)==3)=true:=by simp only[beq_iff_eq,decide_eq_true_eq];omega
   clear HR c1;rename Hid (R=decide (al=0))=>HR;have d2:((al:Int)==0)=R:=by
    rw[HR.out];exact Bool.eq_iff_iff.2 (by simp only[beq_iff_eq,decide_eq_true_eq];omega)
   clear HR HSG HNO;go_enter Tryz.func110,Tryz.ntmps110;go_wp2_with fail;go_quiet (fail);go_wp2_with fail;exact bodyPost_ret (v:= .bool R) (by simp[results,Tryz.results110,go_sem]) rfl ⟨rfl,below_dr HQ.out _⟩
  ·have HE:Hid (R=false):=HR.out.trans (by rw[dF c1,Bool.false_and]);have d1:((xl:Int)==3)=false:=Bool.eq_false_iff.2 (by simp only[ne_eq,beq_iff_eq,decide_eq_true_eq];omega);clear HR c1 HSG HNO;go_enter Tryz.func110,Tryz.ntmps110;go_wp2_with fail;go_quiet (fail);go_wp2_with fail;exact bodyPost_ret (v:= .bool false) (by simp[results,Tryz.results110,go_sem]) rfl ⟨by rw[HE.out],below_dr HQ.out _⟩
 by_cases k15:k=15
 ·subst k15;have HR1:Hid (R=(decide (xl=2)&&decide (al=0))):=HR.out.trans rfl;clear HR;rename Hid (R=(decide (xl=2)&&decide (al=0)))=>HR;by_cases c1:xl=2
  ·have HR1:Hid (R=decide (al=0)):=HR.out.trans (by rw[dT c1,Bool.true_and]);have d1:((xl:Int)==2)=true:=by simp only[beq_iff_eq,decide_eq_true_eq];omega
   clear HR c1;rename Hid (R=decide (al=0))=>HR;have d2:((al:Int)==0)=R:=by
    rw[HR.out];exact Bool.eq_iff_iff.2 (by simp only[beq_iff_eq,decide_eq_true_eq];omega)
   clear HR HSG HNO;go_enter Tryz.func110,Tryz.ntmps110;go_wp2_with fail;go_quiet (fail);go_wp2_with fail;exact bodyPost_ret (v:= .bool R) (by simp[results,Tryz.results110,go_sem]) rfl ⟨rfl,below_dr HQ.out _⟩
  ·have HE:Hid (R=false):=HR.out.trans (by rw[dF c1,Bool.false_and]);have d1:((xl:Int)==2)=false:=Bool.eq_false_iff.2 (by simp only[ne_eq,beq_iff_eq,decide_eq_true_eq];omega);clear HR c1 HSG HNO;go_enter Tryz.func110,Tryz.ntmps110;go_wp2_with fail;go_quiet (fail);go_wp2_with fail;exact bodyPost_ret (v:= .bool false) (by simp[results,Tryz.results110,go_sem]) rfl ⟨by rw[HE.out],below_dr HQ.out _⟩
 by_cases k16:k=16
 ·subst k16;have HR1:Hid (R=(decide (xl=2)&&(decide (1≤al)&&decide (al≤64)))):=HR.out.trans rfl;clear HR;rename Hid (R=(decide (xl=2)&&(decide (1≤al)&&decide (al≤64))))=>HR;by_cases c1:xl=2
  ·have HR1:Hid (R=(decide (1≤al)&&decide (al≤64))):=HR.out.trans (by rw[dT c1,Bool.true_and]);have d1:((xl:Int)==2)=true:=by simp only[beq_iff_eq,decide_eq_true_eq];omega
   clear HR c1;rename Hid (R=(decide (1≤al)&&decide (al≤64)))=>HR;by_cases c2:1≤al
   ·have HR2:Hid (R=decide (al≤64)):=HR.out.trans (by rw[dT c2,Bool.true_and]);have d2:decide (1≤(al:Int))=true:=by simp only[beq_iff_eq,decide_eq_true_eq];omega
    clear HR c2;rename Hid (R=decide (al≤64))=>HR;have d3:decide ((al:Int)≤64)=R:=by
     rw[HR.out];exact Bool.eq_iff_iff.2 (by simp only[beq_iff_eq,decide_eq_true_eq];omega)
    clear HR HSG HNO;go_enter Tryz.func110,Tryz.ntmps110;go_wp2_with fail;go_quiet (fail);go_wp2_with fail;exact bodyPost_ret (v:= .bool R) (by simp[results,Tryz.results110,go_sem]) rfl ⟨rfl,below_dr HQ.out _⟩
   ·have HE:Hid (R=false):=HR.out.trans (by rw[dF c2,Bool.false_and]);have d2:decide (1≤(al:Int))=false:=Bool.eq_false_iff.2 (by simp only[ne_eq,beq_iff_eq,decide_eq_true_eq];omega);clear HR c2 HSG HNO;go_enter Tryz.func110,Tryz.ntmps110;go_wp2_with fail;go_quiet (fail);go_wp2_with fail;exact bodyPost_ret (v:= .bool false) (by simp[results,Tryz.results110,go_sem]) rfl ⟨by rw[HE.out],below_dr HQ.out _⟩
  ·have HE:Hid (R=false):=HR.out.trans (by rw[dF c1,Bool.false_and]);have d1:((xl:Int)==2)=false:=Bool.eq_false_iff.2 (by simp only[ne_eq,beq_iff_eq,decide_eq_true_eq];omega);clear HR c1 HSG HNO;go_enter Tryz.func110,Tryz.ntmps110;go_wp2_with fail;go_quiet (fail);go_wp2_with fail;exact bodyPost_ret (v:= .bool false) (by simp[results,Tryz.results110,go_sem]) rfl ⟨by rw[HE.out],below_dr HQ.out _⟩
 by_cases k17:k=17
 ·subst k17;have HR1:Hid (R=(decide (3≤xl)&&decide (al=0))):=HR.out.trans rfl;clear HR;rename Hid (R=(decide (3≤xl)&&decide (al=0)))=>HR;by_cases c1:3≤xl
  ·have HR1:Hid (R=decide (al=0)):=HR.out.trans (by rw[dT c1,Bool.true_and]);have d1:decide (3≤(xl:Int))=true:=by simp only[beq_iff_eq,decide_eq_true_eq];omega
   clear HR c1;rename Hid (R=decide (al=0))=>HR;have d2:((al:Int)==0)=R:=by
    rw[HR.out];exact Bool.eq_iff_iff.2 (by simp only[beq_iff_eq,decide_eq_true_eq];omega)
   clear HR HSG HNO;go_enter Tryz.func110,Tryz.ntmps110;go_wp2_with fail;go_quiet (fail);go_wp2_with fail;exact bodyPost_ret (v:= .bool R) (by simp[results,Tryz.results110,go_sem]) rfl ⟨rfl,below_dr HQ.out _⟩
  ·have HE:Hid (R=false):=HR.out.trans (by rw[dF c1,Bool.false_and]);have d1:decide (3≤(xl:Int))=false:=Bool.eq_false_iff.2 (by simp only[ne_eq,beq_iff_eq,decide_eq_true_eq];omega);clear HR c1 HSG HNO;go_enter Tryz.func110,Tryz.ntmps110;go_wp2_with fail;go_quiet (fail);go_wp2_with fail;exact bodyPost_ret (v:= .bool false) (by simp[results,Tryz.results110,go_sem]) rfl ⟨by rw[HE.out],below_dr HQ.out _⟩
 by_cases k18:k=18
 ·subst k18;have HR1:Hid (R=decide (al=0)):=HR.out.trans rfl;clear HR;rename Hid (R=decide (al=0))=>HR;have d1:((al:Int)==0)=R:=by
   rw[HR.out];exact Bool.eq_iff_iff.2 (by simp only[beq_iff_eq,decide_eq_true_eq];omega)
  clear HR HSG HNO;go_enter Tryz.func110,Tryz.ntmps110;go_wp2_with fail;go_quiet (fail);go_wp2_with fail;exact bodyPost_ret (v:= .bool R) (by simp[results,Tryz.results110,go_sem]) rfl ⟨rfl,below_dr HQ.out _⟩
 by_cases k19:k=19
 ·subst k19;have HR1:Hid (R=(decide (al=2*xl)&&(aa.all (fun a=>decide (0≤a))&&decide (0≤cc)))):=HR.out.trans rfl;clear HR;rename Hid (R=(decide (al=2*xl)&&(aa.all (fun a=>decide (0≤a))&&decide (0≤cc))))=>HR;by_cases c1:al=2*xl
  ·have HR1:Hid (R=(aa.all (fun a=>decide (0≤a))&&decide (0≤cc))):=HR.out.trans (by rw[dT c1,Bool.true_and]);have d1:((al:Int)==2*(xl:Int))=true:=by simp only[beq_iff_eq,decide_eq_true_eq];omega
   clear HR c1;rename Hid (R=(aa.all (fun a=>decide (0≤a))&&decide (0≤cc)))=>HR;obtain⟨b2,hb2⟩:∃b,aa.all (fun a=>decide (0≤a))=b:=⟨_,rfl⟩;have HR2:Hid (R=(b2&&decide (0≤cc))):=by
    have:=HR.out;rw[hb2]at this;exact this
   have HCL:=ZH (fun(w':World)(q:Below w.heap.size w w')=>by have:=HNO.out w' q;rw[hb2]at this;exact this);clear HSG HNO HR hb2;cases b2 with
   |true=>
    have d3:decide (0≤cc)=R:=by
     rw[HR2.out];rfl
    clear HR2;go_enter Tryz.func110,Tryz.ntmps110;go_wp2_with fail;go_quiet (fail);go_wp2_with fail;refine(HCL.out _ (below_dr HQ.out _)).mono ?_;rintro e w1 ⟨rfl,q1⟩;have HQ1:=ZH (bT (below_dr HQ.out _) q1);have g3:w1.cell? ⟨w.heap.size,3,none⟩=some (.int .i64 cc):=(q1.cell (p:=⟨w.heap.size,3,none⟩) (World.block_lt_of_cell? _ _ f3)).trans f3;clear q1;go_wp2_with fail;exact bodyPost_ret (v:= .bool R) (by simp[results,Tryz.results110,go_sem]) rfl ⟨rfl,HQ1.out⟩
   |false=>
    have HE:Hid (R=false):=HR2.out;clear HR2;go_enter Tryz.func110,Tryz.ntmps110;go_wp2_with fail;go_quiet (fail);go_wp2_with fail;refine(HCL.out _ (below_dr HQ.out _)).mono ?_;rintro e w1 ⟨rfl,q1⟩;have HQ1:=ZH (bT (below_dr HQ.out _) q1);have g3:w1.cell? ⟨w.heap.size,3,none⟩=some (.int .i64 cc):=(q1.cell (p:=⟨w.heap.size,3,none⟩) (World.block_lt_of_cell? _ _ f3)).trans f3;clear q1;go_wp2_with fail;exact bodyPost_ret (v:= .bool false) (by simp[results,Tryz.results110,go_sem]) rfl ⟨by rw[HE.out],HQ1.out⟩
  ·have HE:Hid (R=false):=HR.out.trans (by rw[dF c1,Bool.false_and]);have d1:((al:Int)==2*(xl:Int))=false:=Bool.eq_false_iff.2 (by simp only[ne_eq,beq_iff_eq,decide_eq_true_eq];omega);clear HR c1 HSG HNO;go_enter Tryz.func110,Tryz.ntmps110;go_wp2_with fail;go_quiet (fail);go_wp2_with fail;exact bodyPost_ret (v:= .bool false) (by simp[results,Tryz.results110,go_sem]) rfl ⟨by rw[HE.out],below_dr HQ.out _⟩
 have HE:Hid (R=false):=HR.out.trans (by simp[k1,k2,k3,k4,k5,k6,k7,k8,k9,k10,k11,k12,k13,k14,k15,k16,k17,k18,k19]);have d1:(k==1)=false:=beq_false_of_ne k1;have d2:(k==2)=false:=beq_false_of_ne k2;have d3:(k==3)=false:=beq_false_of_ne k3;have d4:(k==4)=false:=beq_false_of_ne k4;have d5:(k==5)=false:=beq_false_of_ne k5;have d6:(k==6)=false:=beq_false_of_ne k6;have d7:(k==7)=false:=beq_false_of_ne k7;have d8:(k==8)=false:=beq_false_of_ne k8;have d9:(k==9)=false:=beq_false_of_ne k9;have d10:(k==10)=false:=beq_false_of_ne k10;have d11:(k==11)=false:=beq_false_of_ne k11;have d12:(k==12)=false:=beq_false_of_ne k12;have d13:(k==13)=false:=beq_false_of_ne k13;have d14:(k==14)=false:=beq_false_of_ne k14;have d15:(k==15)=false:=beq_false_of_ne k15;have d16:(k==16)=false:=beq_false_of_ne k16;have d17:(k==17)=false:=beq_false_of_ne k17;have d18:(k==18)=false:=beq_false_of_ne k18;have d19:(k==19)=false:=beq_false_of_ne k19;clear HR HSG HNO k1 k2 k3 k4 k5 k6 k7 k8 k9 k10 k11 k12 k13 k14 k15 k16 k17 k18 k19;go_enter Tryz.func110,Tryz.ntmps110;go_wp2_with fail;go_quiet (fail);go_wp2_with fail;exact bodyPost_ret (v:= .bool false) (by simp[results,Tryz.results110,go_sem]) rfl ⟨by rw[HE.out],below_dr HQ.out _⟩
end Go.Proofs.YtecfcjdgmpopjaaGreat

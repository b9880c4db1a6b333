/-
  Joined texts: Hm, Hn, Ho, Gj, Gk.
-/
import Derived.Test.YtecfcjdgmpopjaaGreatHl
import Derived.Test.YtecfcjdgmpopjaaGreatHc
set_option maxHeartbeats 40000000
set_option maxRecDepth 100000
set_option linter.unusedSimpArgs false
set_option linter.unusedVariables false
namespace Go.Proofs.YtecfcjdgmpopjaaGreat
open Go.RowKit Num
theorem memD {α:Type}{l:List α}{j:Nat}{z:α}(hj:j<l.length):l.getD j z∈l:=by
 rw[gE,gG hj];exact List.getElem_mem hj
theorem rmright_any {w:World}{a:Mp}{m:Md}(h:MdAt w a m)(hz:MdSz m):Calls Tryz.prog 36 #[.agg (mdC a m)] w fun e w'=>e= .returned (.bool (rightM m))∧Below w.heap.size w w':=by
 have M:=(Mem.start w).new 25 (mdC a m);obtain⟨R,hR⟩:∃R,rightM m=R:=⟨_,rfl⟩;rw[hR];have HR:Hid (R=(decide (m.doms.length≤64)&&(decide (m.cons.length≤64)&&((m.doms.drop 0).all domB&&((m.cons.drop 0).all (conD m.doms)&&askB m))))):=hR.symm.trans (right_m m);have HDS:=ZH h.ds;have HCS:=ZH h.cs;have HZ:=ZH hz;have hz1:=hz.doms;have hz2:=hz.cons;obtain⟨m0,m1,m2,m3⟩:=(M.k (i:=0) rfl).four;have HM:=ZH M;have HQ:=ZH M.bel;clear hR h hz M;by_cases l1:m.doms.length≤64;rotate_left
 ·have d1:decide ((64:Int)<(m.doms.length:Int))=true:=dT (by omega);have HE:Hid (R=false):=HR.out.trans (by rw[dF l1];rfl);go_enter Tryz.func36,Tryz.ntmps36;go_wp2_with fail;exact bodyPost_ret (v:= .bool false) (by simp[results,Tryz.results36,go_sem]) rfl ⟨by rw[HE.out],HQ.out⟩
 by_cases l2:m.cons.length≤64;rotate_left
 ·have d1:decide ((64:Int)<(m.doms.length:Int))=false:=dF (by omega);have d2:decide ((64:Int)<(m.cons.length:Int))=true:=dT (by omega);have HE:Hid (R=false):=HR.out.trans (by rw[dF l2,Bool.false_and,Bool.and_false]);go_enter Tryz.func36,Tryz.ntmps36;go_wp2_with fail;exact bodyPost_ret (v:= .bool false) (by simp[results,Tryz.results36,go_sem]) rfl ⟨by rw[HE.out],HQ.out⟩
 have d1:decide ((64:Int)<(m.doms.length:Int))=false:=dF (by omega);have d2:decide ((64:Int)<(m.cons.length:Int))=false:=dF (by omega);have HR2:Hid (R=((m.doms.drop 0).all domB&&((m.cons.drop 0).all (conD m.doms)&&askB m))):=HR.out.trans (by rw[dT l1,dT l2,Bool.true_and,Bool.true_and]);clear HR;go_enter Tryz.func36,Tryz.ntmps36;go_wp2_with fail;go_loopg [3] m.doms.length (fun kk p wr=>∃j,kk=m.doms.length-j∧j≤m.doms.length∧p= .int .i64 (j:Nat)∧Hid (R=((m.doms.drop j).all domB&&((m.cons.drop 0).all (conD m.doms)&&askB m)))∧Hid (Mem w wr [(w.heap.size,25,mdC a m)] []))
 case atStart=>exact⟨0,rfl,Nat.zero_le _,rfl,HR2.out,HM.out⟩
 case round=>
  clear HR2 HM HQ m0 m1 m2 m3 d1 d2;obtain⟨j,hk,hj,rfl,HL,HM⟩:=hrel;have HQ:=ZH HM.out.bel;obtain⟨m0,m1,m2,m3⟩:=(HM.out.k (i:=0) rfl).four;by_cases hlt:j<m.doms.length
  ·have d1:decide ((j:Int)<(m.doms.length:Int))=true:=dT (by omega);have HC:Hid (R=(domB (m.doms.getD j [])&&((m.doms.drop (j+1)).all domB&&((m.cons.drop 0).all (conD m.doms)&&askB m)))):=HL.out.trans (by rw[drop_at (z:=[]) hlt,List.all_cons,Bool.and_assoc]);obtain⟨gd,od,hda,cd⟩:=(HDS.out.below HQ.out).ap j hlt;replace cd:wr.cell? ⟨gd,od+j,none⟩=some (.slice (a.ds.getD j ad0).1 (m.doms.getD j []).length (a.ds.getD j ad0).2):=cd;have HRR:=ZH ((HDS.out.below HQ.out).ar j hlt);have hrl:=HZ.out.ds (m.doms.getD j []) (memD hlt);rw[hda]at m0;generalize (a.ds.getD j ad0).1=DA at*;generalize (a.ds.getD j ad0).2=dc at*;generalize m.doms.getD j []=row at*;clear hda HL;have HDM:=ZH (rdom_any (c:=dc) HRR.out (by omega));obtain⟨b,hb⟩:∃b,domB row=b:=⟨_,rfl⟩;rw[hb]at HDM HC;clear hb;cases b with
   |false=>
    have HE:Hid (R=false):=HC.out;clear HC;go_wp2_with fail;refine HDM.out.mono ?_;rintro e w1 ⟨rfl,q1⟩;replace HQ:=ZH (bT HQ.out q1);clear q1;go_wp2_with fail;exact bodyPost_ret (v:= .bool false) (by simp[results,Tryz.results36,go_sem]) rfl ⟨by rw[HE.out],HQ.out⟩
   |true=>
    have HC2:Hid (R=((m.doms.drop (j+1)).all domB&&((m.cons.drop 0).all (conD m.doms)&&askB m))):=HC.out;clear HC;go_wp2_with fail;refine HDM.out.mono ?_;rintro e w1 ⟨rfl,q1⟩;replace HM:=ZH (HM.out.below q1);clear q1;go_wp2_with fail;go_roundg (m.doms.length-(j+1))
    case measure=>omega
    case rel=>exact⟨j+1,rfl,by omega,by simp,HC2.out,HM.out⟩
  ·have d1:decide ((j:Int)<(m.doms.length:Int))=false:=dF (by omega);have HC2:Hid (R=((m.cons.drop 0).all (conD m.doms)&&askB m)):=HL.out.trans (by rw[drop_none hlt];rfl);clear HL;obtain⟨WC2,hWC2⟩:∃W,W=wr:=⟨_,rfl⟩;subst hWC2;go_wp2_with fail;go_loopg [4] m.cons.length (fun kk p wr=>∃i,kk=m.cons.length-i∧i≤m.cons.length∧p= .int .i64 (i:Nat)∧Hid (R=((m.cons.drop i).all (conD m.doms)&&askB m))∧Hid (Mem w wr [(w.heap.size,25,mdC a m)] []))
   case atStart=>exact⟨0,rfl,Nat.zero_le _,rfl,HC2.out,HM.out⟩
   case round=>
    clear HC2 HM HQ m0 m1 m2 m3;obtain⟨i,hk2,hi,rfl,HL,HM⟩:=hrel;have HQ:=ZH HM.out.bel;by_cases hla:i<m.cons.length
    ·have d1:decide ((i:Int)<(m.cons.length:Int))=true:=dT (by omega);have HC:Hid (R=(conD m.doms (m.cons.getD i cn0)&&((m.cons.drop (i+1)).all (conD m.doms)&&askB m))):=HL.out.trans (by rw[drop_at (z:=cn0) hla,List.all_cons,Bool.and_assoc]);have HDD:=ZH (HDS.out.below HQ.out);have HCC:=ZH (HCS.out.below HQ.out);obtain⟨gc,oc,hca,n0,n1,n2,n3⟩:=HCC.out.at hla;have HCN:=ZH (HCC.out.cr i hla);have hcz:=HZ.out.cs (m.cons.getD i cn0) (memD hla);have hdz:=HZ.out.ds;have HDZ:Hid (∀i,i<m.doms.length→(m.doms.getD i []).length≤1000):=fun i hi=>hdz _ (memD hi);obtain⟨⟨dA,dC⟩,ds,⟨cA,cC⟩,xs,as_⟩:=a;dsimp only at*;subst hca;obtain⟨m0,m1,m2,m3⟩:=(HM.out.k (i:=0) rfl).four;have K0:=Lk.of n0;have K1:=Lk.of n1;have K2:=Lk.of n2;have K3:=Lk.of n3;have C0:=Lk.of m0;have C1:=Lk.of m1;have C2:=Lk.of m2;have C3:=Lk.of m3;generalize xs.getD i ad0=x at*;generalize as_.getD i ad0=ad at*;generalize m.cons.getD i cn0=c at*;have M2:=Mem.start wr;clear hdz HL n0 n1 n2 n3;have HCON:=ZH (fun(w':World)(q:Below wr.heap.size wr w')=>rcon_any (a:=⟨(dA,dC),ds,(some ⟨gc,oc,none⟩,cC),xs,as_⟩) (m:=m) (HDD.out.below q) hz1 HDZ.out (HCN.out.below q) hcz.1 hcz.2);go_upto_region 11 with fail;refine region_st (n:=8) (frame:= ?frame1) (fun jK=>[kF (.agg #[.slice dA m.doms.length dC,.slice (some ⟨gc,oc,none⟩) m.cons.length cC,iw m.ask,iw m.goal]),kP w.heap.size 1,kF (.slice (some ⟨gc,oc,none⟩) m.cons.length cC),kI ((i:Nat)),kP gc (oc+i*4),kF (.agg (cnC x ad c)),kB ((conD m.doms c)),kB ((!(conD m.doms c)))].getD jK .none) [] (by kernel_rfl) (by kernel_rfl) (by kernel_rfl) rfl M2 (fun _ h=>by cases h) (fun _ h=>by cases h) ?_ ?_ ?_
     case refine_1=>
      intro s;simp only[fr,Act.put,zA,zB,zC,zD,zE,zF,Nat.reduceAdd];rfl
     case refine_2=>
      iterate 8 (refine SN ?_ ?_;rotate_left)
      exact Steps.nil;all_goals (intro L s w9 hN hU hi hS K hK;dsimp only at hK⊢;simp only[Act.put,zD,zE,zF]at hK)
      ·have u0:=C0 _ hS.mem.bel;have u1:=C1 _ hS.mem.bel;have u2:=C2 _ hS.mem.bel;have u3:=C3 _ hS.mem.bel;go_simp;exact hS.o hK
      ·go_simp;exact hS.o hK
      ·simp only[hS.f hN 1]at hK⊢;have u1:=C1 _ hS.mem.bel;go_simp;exact hS.o hK
      ·go_simp;exact hS.o hK
      ·simp only[hS.f hN 2,hS.f hN 3]at hK⊢;go_simp;exact hS.o hK
      ·simp only[hS.f hN 4]at hK⊢;have u0:=K0 _ hS.mem.bel;have u1:=K1 _ hS.mem.bel;have u2:=K2 _ hS.mem.bel;have u3:=K3 _ hS.mem.bel;go_simp;exact hS.o hK
      ·simp only[hS.f hN 0,hS.f hN 5]at hK⊢;go_simp;go_at_call 65;refine(HCON.out _ hS.mem.bel).mono ?_;rintro e9 w10 ⟨rfl,q⟩;exact hK.out _ _ (hS.val rfl (nSo rfl) q rfl)
      ·simp only[hS.f hN 6]at hK⊢;go_simp;exact hS.o hK
     intro L s w9 hall hS;have e7:=hS.fx 7 rfl rfl (hall 7 (by decide));have q3:=hS.mem.bel;have HM3:=ZH (HM.out.below q3);replace HQ:=ZH (bT HQ.out q3);simp only[e7];clear hS hall e7 q3;cases htr:conD m.doms c with
     |false=>
      have HE:Hid (R=false):=HC.out.trans (by rw[htr];rfl);clear HC htr;go_wp2_with fail;exact bodyPost_ret (v:= .bool false) (by simp[results,Tryz.results36,go_sem]) rfl ⟨by rw[HE.out],HQ.out⟩
     |true=>
      have HC2:Hid (R=((m.cons.drop (i+1)).all (conD m.doms)&&askB m)):=HC.out.trans (by rw[htr];rfl);clear HC htr;go_wp2_with fail;go_roundg (m.cons.length-(i+1))
      case measure=>omega
      case rel=>exact⟨i+1,rfl,by omega,by simp,HC2.out,HM3.out⟩
    ·have d1:decide ((i:Int)<(m.cons.length:Int))=false:=dF (by omega);have HC2:Hid (R=askB m):=HL.out.trans (by rw[drop_none hla];rfl);obtain⟨m0,m1,m2,m3⟩:=(HM.out.k (i:=0) rfl).four;clear HL HM;obtain⟨doms,cons,ask,goal⟩:=m;by_cases a0:ask=0
     ·subst a0;have e0:(goal==0)=R:=by
       rw[HC2.out];exact Bool.eq_iff_iff.2 (by unfold askB;simp)
      clear HC2;go_wp2_with fail;exact bodyPost_ret (v:= .bool R) (by simp[results,Tryz.results36,go_sem]) rfl ⟨rfl,HQ.out⟩
     ·have b0:(ask==0)=false:=beq_false_of_ne a0;by_cases a1:ask=1∨ask=2
      ·have HA:Hid (R=(decide (0≤goal)&&decide (goal<doms.length))):=HC2.out.trans ((if_neg a0).trans (if_pos a1));clear HC2 a0;by_cases g0:0≤goal
       ·have g1:decide (0≤goal)=true:=dT g0;have g2:decide (goal<(doms.length:Int))=R:=by rw[HA.out,g1,Bool.true_and]
        clear HA g0;rcases a1 with rfl|rfl
        ·go_wp2_with fail;exact bodyPost_ret (v:= .bool R) (by simp[results,Tryz.results36,go_sem]) rfl ⟨rfl,HQ.out⟩
        ·go_wp2_with fail;exact bodyPost_ret (v:= .bool R) (by simp[results,Tryz.results36,go_sem]) rfl ⟨rfl,HQ.out⟩
       ·have g1:decide (0≤goal)=false:=dF g0;have HE:Hid (R=false):=HA.out.trans (by rw[g1,Bool.false_and]);clear HA g0;rcases a1 with rfl|rfl
        ·go_wp2_with fail;exact bodyPost_ret (v:= .bool false) (by simp[results,Tryz.results36,go_sem]) rfl ⟨by rw[HE.out],HQ.out⟩
        ·go_wp2_with fail;exact bodyPost_ret (v:= .bool false) (by simp[results,Tryz.results36,go_sem]) rfl ⟨by rw[HE.out],HQ.out⟩
      ·have HE:Hid (R=false):=HC2.out.trans ((if_neg a0).trans (if_neg a1));have b1:(ask==1)=false:=beq_false_of_ne (by omega);have b2:(ask==2)=false:=beq_false_of_ne (by omega);clear HC2 a0 a1;go_wp2_with fail;exact bodyPost_ret (v:= .bool false) (by simp[results,Tryz.results36,go_sem]) rfl ⟨by rw[HE.out],HQ.out⟩
theorem rfitD_any {w:World}{a:Mp}{m:Md}{D:Option Addr}{Dc:Nat}{ds:List Adr}{d:List (List (Int×Int))}(h:MdAt w a m)(hd:DsAt w D ds d)(hz:MdSz m)(hzd:MdSz {m with doms:=d}):Calls Tryz.prog 15 #[.agg (mdC a m),.slice D d.length Dc] w fun e w'=>e= .returned (.bool (fitM m d))∧Below w.heap.size w w':=by
 have HR:Hid (∀w',Below w.heap.size w w'→Calls Tryz.prog 36 #[.agg #[.slice D d.length Dc,.slice a.cons.1 m.cons.length a.cons.2,iw m.ask,iw m.goal]] w' fun e w2=>e= .returned (.bool (rightM {m with doms:=d}))∧Below w'.heap.size w' w2):=fun w' q=>
  rmright_any (a:={a with doms:=(D,Dc),ds:=ds}) (m:={m with doms:=d}) ⟨hd.below q,h.cs.below q⟩ hzd
 have M:=(Mem.start w).new 25 (mdC a m);obtain⟨m0,m1,m2,m3⟩:=(M.k (i:=0) rfl).four;have z1:=hz.doms;have z2:d.length≤1000:=hzd.doms;have HB:=ZH M.bel;clear h hd hz hzd M;by_cases hl:d.length=m.doms.length
 ·have d1:((d.length:Int) !=(m.doms.length:Int))=false:=by rw[hl];simp
  obtain⟨F,hF⟩:∃F,rightM {m with doms:=d}=F:=⟨_,rfl⟩;have hf:fitM m d=F:=by unfold fitM;rw[dT hl,hF];rfl
  rw[hF]at HR;rw[hf];clear hF hf hl;have HB2:=ZH (bA1 w (.cells #[.slice D d.length Dc,.slice a.cons.1 m.cons.length a.cons.2,iw m.ask,iw m.goal] 25));go_enter Tryz.func15,Tryz.ntmps15;go_wp2_with fail;refine(HR.out _ HB2.out).mono ?_;rintro e w6 ⟨rfl,q6⟩;have HB3:=ZH (bT HB2.out q6);clear q6;go_wp2_with fail;exact bodyPost_ret (v:= .bool F) (by simp[results,Tryz.results15,go_sem]) rfl ⟨rfl,HB3.out⟩
 ·have d1:((d.length:Int) !=(m.doms.length:Int))=true:=bne_iff_ne.2 (by omega);have hf:fitM m d=false:=by unfold fitM;rw[dF hl];rfl
  rw[hf];go_enter Tryz.func15,Tryz.ntmps15;go_wp2_with fail;exact bodyPost_ret (v:= .bool false) (by simp[results,Tryz.results15,go_sem]) rfl ⟨rfl,HB.out⟩
theorem rlo_any {w:World}{A:Option Addr}{c:Nat}{l:List (Int×Int)}(h:RRow w A l)(hs:l.length≤1000000)(hl:0<l.length):Calls Tryz.prog 32 #[.slice A l.length c] w fun e w'=>e= .returned (.int .i64 (loD l))∧Below w.heap.size w w':=by
 cases l with
 |nil=>cases hl
 |cons r l=>
  obtain⟨g,o,rfl,c0,_⟩:=h.at (j:=0) (by simp);have c0':w.cell? ⟨g,o,none⟩=some (.int .i64 r.1):=c0;have hlt:0<(r::l).length:=by simp
  have hd:loD (r::l)=r.1:=rfl;rw[hd];generalize (r::l).length=n at*;clear h c0 hd;go_enter Tryz.func32,Tryz.ntmps32;go_wp2_with fail;exact bodyPost_ret (v:= .int .i64 r.1) (by simp[results,Tryz.results32,go_sem]) rfl ⟨rfl,Below.refl _ _⟩
theorem rhi_any {w:World}{A:Option Addr}{c:Nat}{l:List (Int×Int)}(h:RRow w A l)(hs:l.length≤1000000)(hl:0<l.length):Calls Tryz.prog 33 #[.slice A l.length c] w fun e w'=>e= .returned (.int .i64 (hiD l))∧Below w.heap.size w w':=by
 obtain⟨j,hj⟩:∃j,l.length=j+1:=⟨l.length-1,by omega⟩;have hlt:j<l.length:=by omega
 obtain⟨g,o,rfl,_,c1⟩:=h.at (j:=j) hlt;have hd:hiD l=(l.getD j (0,0)).2:=by
  unfold hiD;rw[List.getLastD_eq_getLast?,List.getLast?_eq_getElem?,hj,gE];rfl
 have e7:IntKind.i64.wrap ((l.length:Int)-1)=(j:Nat):=(sub_wrap (a:=l.length) (b:=1) (by omega) (by omega)).trans (by rw[hj];rfl);rw[hd];generalize l.getD j (0,0)=r at*;generalize l.length=n at*;clear h hd hl hj;go_enter Tryz.func33,Tryz.ntmps33;go_wp2_with fail;exact bodyPost_ret (v:= .int .i64 r.2) (by simp[results,Tryz.results33,go_sem]) rfl ⟨rfl,Below.refl _ _⟩
def negL (l:List Int):List Int:=l.map fun z=> -z
theorem info_i64o:(Tryz.prog.info? 2).map (fun i=>(i.zero,i.size,i.bytes))=some (some (.int .i64 0),1,8):=by kernel_rfl
theorem IRow.own {w:World}{base:Nat}{A:Option Addr}{c:Nat}{l:List Int}(h:NRow w base 2 1 (.slice A l.length c) l.length (l.map fun z=>Value.int .i64 z)):IRow w A l:=h.crow fun k hk=>by
 rw[List.getElem?_map,gE,gG hk];rfl
theorem ropp12_any {w:World}{A:Option Addr}{c:Nat}{l:List Int}(h:IRow w A l)(hs:l.length≤1000)(hl:∀z∈l,-1099511627776≤z∧z≤1099511627776):Calls Tryz.prog 109 #[.slice A l.length c] w fun e w'=>∃B d,e= .returned (.slice B l.length d)∧IRow w' B (negL l)∧Below w.heap.size w w':=by
 have HI:=ZH h;have HL:=ZH hl;obtain⟨L,hL⟩:∃L,l.length=L:=⟨_,rfl⟩;have HLL:=ZH hL;rw[hL]at hs⊢;clear h hl hL;go_enter Tryz.func109,Tryz.ntmps109;go_wp2_with fail;go_loopg [4,3] L (fun k pp v wr=>∃(i:Nat)(B:Option Addr)(d:Nat),k=L-i∧i≤L∧pp= .int .i64 (i:Nat)∧v= .slice B i d∧Hid (NRow wr w.heap.size 2 1 (.slice B i d) i (((negL l).take i).map fun z=>Value.int .i64 z))∧Hid (Below w.heap.size w wr))
 case atStart=>exact⟨0,none,0,rfl,Nat.zero_le _,rfl,rfl,NRow.nil _ _ _ _,Below.refl _ _⟩
 case round=>
  obtain⟨i,B,d,hk,hi,rfl,rfl,HN,HQ⟩:=hrel;by_cases hlt:i<L
  ·have d1:decide ((i:Int)<(L:Int))=true:=dT (by omega);have hil:i<l.length:=by rw[HLL.out];exact hlt
   obtain⟨ga,oa,rfl,ci⟩:=(HI.out.below HQ.out) i hil;replace ci:wr.cell? ⟨ga,oa+i,none⟩=some (.int .i64 (l.getD i 0)):=ci;have hx:((negL l).take (i+1)).map (fun z=>Value.int .i64 z)=((negL l).take i).map (fun z=>Value.int .i64 z)++[.int .i64 (-(l.getD i 0))]:=by
    have hcl:(negL l)[i]? =some (-(l.getD i 0)):=by
     unfold negL;rw[List.getElem?_map,gE,gG hil];rfl
    rw[List.take_add_one,hcl,List.map_append];rfl
   have HX:=ZH hx;have hz: -1099511627776≤l.getD i 0∧l.getD i 0≤1099511627776:=HL.out _ (memD hil);generalize ((negL l).take i).map (fun z=>Value.int .i64 z)=xs at*;generalize l.getD i 0=z at*;have e7:IntKind.i64.wrap (-z)= -z:=by rw[IntKind.wrap_i64];omega
   have hbs:w.heap.size≤wr.heap.size:=HQ.out.size;have hi6:i≤1000000:=by omega
   clear hx hil;go_wp2_with (at_builtin;refine wp_appNu _ _ wr w.heap.size 2 1 (.slice B i d) i xs #[.int .i64 (-z)] (by first|rfl|simp) Tryz.underlying28 info_i64o rfl rfl (by decide) (by decide) HN.out hbs hi6 rfl rfl rfl rfl rfl rfl rfl ?_;intro v7 w7 r1 r2 r3 r4;obtain⟨A7,c7,rfl⟩:=r1.slice);go_roundg (L-(i+1))
   case measure=>omega
   case rel=>exact⟨i+1,A7,c7,rfl,by omega,by simp,rfl,by (show NRow _ _ _ _ _ _ _);rw[HX.out];exact r1,HQ.out.trans r3⟩
  ·have d1:decide ((i:Int)<(L:Int))=false:=dF (by omega);have hil:i=L:=by omega
   subst hil;have hlc:(negL l).length=i:=by unfold negL;rw[List.length_map];exact HLL.out
   have hrow:IRow wr B (negL l):=by
    have h1:=HN.out;rw[List.take_of_length_le (by omega),←hlc]at h1;exact IRow.own h1
   have HR:=ZH hrow;clear hrow hlc HN;go_wp2_with fail;exact bodyPost_ret (v:= .slice B i d) (by simp[results,Tryz.results109,go_sem]) rfl ⟨B,d,rfl,HR.out,HQ.out⟩
theorem ropposite_any {w:World}{A:Option Addr}{c:Nat}{l:List Int}(h:IRow w A l)(hs:l.length≤1000)(hl:∀z∈l,-1099511627776≤z∧z≤1099511627776):Calls Tryz.prog 63 #[.slice A l.length c] w fun e w'=>∃B d,e= .returned (.slice B l.length d)∧IRow w' B (negL l)∧Below w.heap.size w w':=by
 have HO:=ZH (ropp12_any (c:=c) h hs hl);generalize l.length=n at*;clear h hs hl;go_enter Tryz.func63,Tryz.ntmps63;go_wp2_with fail;refine HO.out.mono ?_;rintro e w1 ⟨B,d,rfl,hr,q⟩;have HR:=ZH hr;have HQ:=ZH q;clear hr q HO;go_wp2_with fail;exact bodyPost_ret (v:= .slice B n d) (by simp[results,Tryz.results63,go_sem]) rfl ⟨B,d,rfl,HR.out,HQ.out⟩
theorem counts_any (rule sx sa:Int)(has:Bool)(bits:Int)(hs:0≤sx∧sx≤10){x a:Nat}(hx:x≤1000000)(ha:a≤1000000)(w:World):Calls Tryz.prog 192 #[.agg #[iw rule,iw sx,iw sa,.bool has,iw bits],.int .i64 (x:Nat),.int .i64 (a:Nat)] w fun e w'=>e= .returned (.bool (countsB ⟨rule,sx,sa,has,bits⟩ x a))∧Below w.heap.size w w':=by
 have M:=(Mem.start w).new 202 #[iw rule,iw sx,iw sa,.bool has,iw bits];obtain⟨f0,f1,f2,f3,f4⟩:=(M.k (i:=0) rfl).fiveS;have HM:=ZH M.bel;clear M;unfold countsB;dsimp only;by_cases r0:rule=0
 ·rw[if_pos r0];subst r0;by_cases h1:(x:Int)=sx
  ·have d1:((x:Int)==sx)=true:=beq_iff_eq.2 h1;rw[dT h1,Bool.true_and];go_enter Tryz.func192,Tryz.ntmps192;go_wp2_with fail;exact bodyPost_ret (v:= .bool (decide ((a:Int)=sa))) (by simp[results,Tryz.results192,go_sem];rfl) rfl ⟨rfl,HM.out⟩
  ·have d1:((x:Int)==sx)=false:=beq_false_of_ne h1;rw[dF h1,Bool.false_and];go_enter Tryz.func192,Tryz.ntmps192;go_wp2_with fail;exact bodyPost_ret (v:= .bool false) (by simp[results,Tryz.results192,go_sem]) rfl ⟨rfl,HM.out⟩
 ·have q0:(rule==0)=false:=beq_false_of_ne r0;rw[if_neg r0];by_cases r1:rule=1
  ·rw[if_pos r1];subst r1;have x1:IntKind.i64.wrap ((a:Int)+sx)=(a:Int)+sx:=by rw[IntKind.wrap_i64];omega
   go_enter Tryz.func192,Tryz.ntmps192;go_wp2_with fail;exact bodyPost_ret (v:= .bool (decide ((x:Int)=(a:Int)+sx))) (by simp[results,Tryz.results192,go_sem];rfl) rfl ⟨rfl,HM.out⟩
  ·have q1:(rule==1)=false:=beq_false_of_ne r1;rw[if_neg r1];by_cases r2:rule=2
   ·rw[if_pos r2];subst r2;by_cases h1:sx≤(x:Int)
    ·have d1:decide (sx≤(x:Int))=true:=dT h1;rw[d1,Bool.true_and];go_enter Tryz.func192,Tryz.ntmps192;go_wp2_with fail;exact bodyPost_ret (v:= .bool (decide ((a:Int)=sa))) (by simp[results,Tryz.results192,go_sem];rfl) rfl ⟨rfl,HM.out⟩
    ·have d1:decide (sx≤(x:Int))=false:=dF h1;rw[d1,Bool.false_and];go_enter Tryz.func192,Tryz.ntmps192;go_wp2_with fail;exact bodyPost_ret (v:= .bool false) (by simp[results,Tryz.results192,go_sem]) rfl ⟨rfl,HM.out⟩
   ·have q2:(rule==2)=false:=beq_false_of_ne r2;rw[if_neg r2];by_cases r3:rule=3
    ·rw[if_pos r3];subst r3;by_cases h1:(x:Int)=sx
     ·have d1:((x:Int)==sx)=true:=beq_iff_eq.2 h1;rw[dT h1,Bool.true_and];by_cases h2:1≤(a:Int)
      ·have d2:decide (1≤(a:Int))=true:=dT h2;rw[d2,Bool.true_and];go_enter Tryz.func192,Tryz.ntmps192;go_wp2_with fail;exact bodyPost_ret (v:= .bool (decide ((a:Int)≤64))) (by simp[results,Tryz.results192,go_sem]) rfl ⟨rfl,HM.out⟩
      ·have d2:decide (1≤(a:Int))=false:=dF h2;rw[d2,Bool.false_and];go_enter Tryz.func192,Tryz.ntmps192;go_wp2_with fail;exact bodyPost_ret (v:= .bool false) (by simp[results,Tryz.results192,go_sem]) rfl ⟨rfl,HM.out⟩
     ·have d1:((x:Int)==sx)=false:=beq_false_of_ne h1;rw[dF h1,Bool.false_and];go_enter Tryz.func192,Tryz.ntmps192;go_wp2_with fail;exact bodyPost_ret (v:= .bool false) (by simp[results,Tryz.results192,go_sem]) rfl ⟨rfl,HM.out⟩
    ·have q3:(rule==3)=false:=beq_false_of_ne r3;rw[if_neg r3];have x1:IntKind.i64.wrap (2*(x:Int))=2*(x:Int):=by rw[IntKind.wrap_i64];omega
     go_enter Tryz.func192,Tryz.ntmps192;go_wp2_with fail;exact bodyPost_ret (v:= .bool (decide ((a:Int)=2*(x:Int)))) (by simp[results,Tryz.results192,go_sem];rfl) rfl ⟨rfl,HM.out⟩
theorem shape_x {k:Int}{s:Shp}(h:shapeOf k=some s):0≤s.x∧s.x≤10:=by
 unfold shapeOf at h;repeat' split at h
 all_goals first|(cases h;decide)|cases h
theorem f1_run (args:Array Value)(w:World):Sem.run Tryz.prog (callFunc 193 args) w= .ok (.enter 193 args) w:=by kernel_rfl
theorem f2_run (args:Array Value)(w:World):Sem.run Tryz.prog (callFunc 194 args) w= .ok (.enter 194 args) w:=by kernel_rfl
theorem f1_any (z:Int)(w:World):Calls Tryz.prog 193 #[.int .i64 z] w fun e w'=>e= .returned (.bool (!unitB z))∧Below w.heap.size w w':=by
 by_cases h1:z=1
 ·have d1:(z !=1)=false:=by rw[h1];rfl
  have hu:unitB z=true:=by rw[h1];rfl
  rw[hu];go_enter Tryz.func193,Tryz.ntmps193;go_wp2_with fail;exact bodyPost_ret (v:= .bool false) (by simp[results,Tryz.results193,go_sem]) rfl ⟨rfl,Below.refl _ _⟩
 ·have d1:(z !=1)=true:=bne_iff_ne.2 h1;have hu:unitB z=(z== -1):=by
   unfold unitB;rw[beq_false_of_ne h1,Bool.false_or]
  rw[hu];go_enter Tryz.func193,Tryz.ntmps193;go_wp2_with fail;exact bodyPost_ret (v:= .bool (z != -1)) (by simp[results,Tryz.results193,go_sem]) rfl ⟨rfl,Below.refl _ _⟩
theorem f2_any (z:Int)(w:World):Calls Tryz.prog 194 #[.int .i64 z] w fun e w'=>e= .returned (.bool (decide (z<0)))∧Below w.heap.size w w':=by
 go_enter Tryz.func194,Tryz.ntmps194;go_wp2_with fail;exact bodyPost_ret (v:= .bool (decide (z<0))) (by simp[results,Tryz.results194,go_sem]) rfl ⟨rfl,Below.refl _ _⟩
theorem any_unit (l:List Int):(!(l.any fun z=> !unitB z))=l.all unitB:=by
 induction l with
 |nil=>rfl
 |cons z l ih=>
  rw[List.any_cons,List.all_cons,←ih];cases unitB z<;>rfl
theorem any_neg (l:List Int):(!(l.any fun z=>decide (z<0)))=l.all fun a=>decide (0≤a):=by
 induction l with
 |nil=>rfl
 |cons z l ih=>
  rw[List.any_cons,List.all_cons,←ih];by_cases h:z<0
  ·rw[dT h,dF (show ¬0≤z by omega)];rfl
  ·rw[dF h,dT (show 0≤z by omega)];rfl
theorem formed_any {w:World}{x a:Adr}{c:Cn}(h:CnAt w x a c)(hx:c.x.length≤1000)(ha:c.a.length≤1000):Calls Tryz.prog 158 #[.agg (cnC x a c)] w fun e w'=>e= .returned (.bool (formedB c))∧Below w.heap.size w w':=by
 have HA:=ZH h.a;have M:=(Mem.start w).new 69 (cnC x a c);obtain⟨p0,p1,p2,p3⟩:=(M.k (i:=0) rfl).four;obtain⟨k,X,A,C⟩:=c;replace hx:X.length≤1000:=hx;replace ha:A.length≤1000:=ha;clear h;cases hs:shapeOf k with
 |none=>
  have hf:formedB ⟨k,X,A,C⟩=false:=by unfold formedB;rw[hs]
  have HS:Hid (∀w,Calls Tryz.prog 157 #[.int .i64 k] w fun e w'=>e= .returned (.tuple #[.agg #[iw 0,iw 0,iw 0,.bool false,iw 0],.bool false])∧Below w.heap.size w w'):=fun w=>by
   have:=shapes_any k w;rw[hs]at this;exact this
  rw[hf];clear hs hf;go_enter Tryz.func158,Tryz.ntmps158;go_wp2_with fail;refine(HS.out _).mono ?_;rintro e w1 ⟨rfl,q1⟩;replace M:=M.below q1;have HM:=ZH (M.new 202 #[iw 0,iw 0,iw 0,.bool false,iw 0]);clear p0 p1 p2 p3 q1 HS M;obtain⟨p0,p1,p2,p3⟩:=(HM.out.k (i:=1) rfl).four;obtain⟨s0,s1,s2,s3,s4⟩:=(HM.out.k (i:=0) rfl).fiveS;go_wp2_with fail;exact bodyPost_ret (v:= .bool false) (by simp[results,Tryz.results158,go_sem]) rfl ⟨rfl,HM.out.bel⟩
 |some s=>
  have hsx:=shape_x hs;obtain⟨rule,sx,sa,has,bits⟩:=s;replace hsx:0≤sx∧sx≤10:=hsx;have HS:Hid (∀w,Calls Tryz.prog 157 #[.int .i64 k] w fun e w'=>e= .returned (.tuple #[.agg #[iw rule,iw sx,iw sa,.bool has,iw bits],.bool true])∧Below w.heap.size w w'):=fun w=>by
   have:=shapes_any k w;rw[hs]at this;exact this
  obtain⟨CB,hCB⟩:∃b,countsB ⟨rule,sx,sa,has,bits⟩ X.length A.length=b:=⟨_,rfl⟩;have HC:Hid (∀w,Calls Tryz.prog 192 #[.agg #[iw rule,iw sx,iw sa,.bool has,iw bits],.int .i64 (X.length:Nat),.int .i64 (A.length:Nat)] w fun e w'=>e= .returned (.bool CB)∧Below w.heap.size w w'):=fun w=>by
   rw[←hCB];exact counts_any rule sx sa has bits hsx (by omega) (by omega) w
  obtain⟨F,hF⟩:∃F,formedB ⟨k,X,A,C⟩=F:=⟨_,rfl⟩;have HF:Hid (F=(CB&&(if k=11 then A.all unitB else if k=19 then decide (0≤C)&&A.all (fun a=>decide (0≤a)) else true))):=by
   show F=_;rw[←hF];unfold formedB;rw[hs];show(countsB ⟨rule,sx,sa,has,bits⟩ X.length A.length&&_)=_;rw[hCB]
  rw[hF];clear hs hF hCB;go_enter Tryz.func158,Tryz.ntmps158;go_wp2_with fail;refine(HS.out _).mono ?_;rintro e w1 ⟨rfl,q1⟩;replace M:=M.below q1;have HM:=ZH (M.new 202 #[iw rule,iw sx,iw sa,.bool has,iw bits]);clear p0 p1 p2 p3 q1 HS M;obtain⟨p0,p1,p2,p3⟩:=(HM.out.k (i:=1) rfl).four;obtain⟨s0,s1,s2,s3,s4⟩:=(HM.out.k (i:=0) rfl).fiveS;go_wp2_with fail;refine(HC.out _).mono ?_;rintro e w2 ⟨rfl,q2⟩;have HM2:=ZH (HM.out.below q2);clear p0 p1 p2 p3 s0 s1 s2 s3 s4 q2 HM HC;obtain⟨p0,p1,p2,p3⟩:=(HM2.out.k (i:=1) rfl).four;have HA2:=ZH (HA.out.below HM2.out.bel);have HBB:=ZH HM2.out.bel;cases CB with
  |false=>
   have HE:Hid (F=false):=HF.out;go_wp2_with fail;exact bodyPost_ret (v:= .bool false) (by simp[results,Tryz.results158,go_sem]) rfl ⟨by rw[HE.out],HBB.out⟩
  |true=>
   by_cases k1:k=11
   ·have HE:Hid (F=A.all unitB):=HF.out.trans (by rw[if_pos k1];rfl);have d1:(k==11)=true:=beq_iff_eq.2 k1;clear HF k1;go_wp2_with fail;refine(contains_any (P:=fun z=> !unitB z) HA2.out (by omega) f1_run fun z w'=>f1_any z w').mono ?_;rintro e w3 ⟨rfl,q3⟩;have HQ:=ZH (bT HBB.out q3);have HE2:Hid (F= !(A.any fun z=> !unitB z)):=HE.out.trans (any_unit A).symm;generalize (A.any fun z=> !unitB z)=R at*;go_wp2_with fail;exact bodyPost_ret (v:= .bool (!R)) (by simp[results,Tryz.results158,go_sem]) rfl ⟨by rw[HE2.out],HQ.out⟩
   ·have d1:(k==11)=false:=beq_false_of_ne k1;by_cases k2:k=19
    ·have HE:Hid (F=(decide (0≤C)&&A.all (fun a=>decide (0≤a)))):=HF.out.trans (by rw[if_neg k1,if_pos k2];rfl);have d2:(k==19)=true:=beq_iff_eq.2 k2;clear HF k1 k2;by_cases hc:0≤C
     ·have d3:decide (0≤C)=true:=dT hc;go_wp2_with fail;refine(contains_any (P:=fun z=>decide (z<0)) HA2.out (by omega) f2_run fun z w'=>f2_any z w').mono ?_;rintro e w3 ⟨rfl,q3⟩;have HQ:=ZH (bT HBB.out q3);have HE2:Hid (F= !(A.any fun z=>decide (z<0))):=HE.out.trans (by rw[dT hc,Bool.true_and,any_neg]);generalize (A.any fun z=>decide (z<0))=R at*;go_wp2_with fail;exact bodyPost_ret (v:= .bool (!R)) (by simp[results,Tryz.results158,go_sem]) rfl ⟨by rw[HE2.out],HQ.out⟩
     ·have d3:decide (0≤C)=false:=dF hc;have HE2:Hid (F=false):=HE.out.trans (by rw[dF hc];rfl);go_wp2_with fail;exact bodyPost_ret (v:= .bool false) (by simp[results,Tryz.results158,go_sem]) rfl ⟨by rw[HE2.out],HBB.out⟩
    ·have HE:Hid (F=true):=HF.out.trans (by rw[if_neg k1,if_neg k2];rfl);have d2:(k==19)=false:=beq_false_of_ne k2;go_wp2_with fail;exact bodyPost_ret (v:= .bool true) (by simp[results,Tryz.results158,go_sem]) rfl ⟨by rw[HE.out],HBB.out⟩
end Go.Proofs.YtecfcjdgmpopjaaGreat

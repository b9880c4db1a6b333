/-
  Joined texts: Gm, Gn, Gd, Ge, Go, Gp, Gq.
-/
import Derived.Test.YtecfcjdgmpopjaaGreatGl
import Derived.Test.YtecfcjdgmpopjaaGreatGc
import Derived.Test.YtecfcjdgmpopjaaGreatKE
set_option maxHeartbeats 16000000
set_option maxRecDepth 100000
set_option linter.unusedSimpArgs false
set_option linter.unusedVariables false
namespace Go.Proofs.YtecfcjdgmpopjaaGreat
open Go.RowKit Num
theorem mright_any {w:World}{a:Mp}{m:Md}(h:MdAt w a m)(hz:MdSz m):Calls Tryz.prog 58 #[.agg (mdC a m)] w fun e w'=>e= .returned (.bool (rightM m))∧Below w.heap.size w w':=by
 have HH:=ZH h;have HZ:=ZH hz;have z1:=hz.doms;have z2:=hz.cons;have M:=(Mem.start w).new 25 (mdC a m);have HBB:=ZH M.bel;obtain⟨m0,m1,m2,m3⟩:=(M.k (i:=0) rfl).four;obtain⟨F,hF⟩:∃F,rightM m=F:=⟨_,rfl⟩;have HF:Hid (F=(decide (m.doms.length≤64)&&(decide (m.cons.length≤64)&&(m.doms.all domB&&(m.cons.all (mayC m.doms)&&askB m))))):=hF.symm;rw[hF];have HM:=ZH M;clear h hz hF M;by_cases h1:m.doms.length≤64
 ·have d1:decide ((64:Int)<(m.doms.length:Int))=false:=dF (by omega);by_cases h2:m.cons.length≤64
  ·have d2:decide ((64:Int)<(m.cons.length:Int))=false:=dF (by omega);have HF2:Hid (F=((m.doms.drop 0).all domB&&(m.cons.all (mayC m.doms)&&askB m))):=HF.out.trans (by rw[dT h1,dT h2];rfl);clear HF;go_enter Tryz.func58,Tryz.ntmps58;go_wp2_with fail;go_loopg [20] m.doms.length (fun k p wr=>∃j,k=m.doms.length-j∧j≤m.doms.length∧p= .int .i64 (j:Nat)∧Hid (F=((m.doms.drop j).all domB&&(m.cons.all (mayC m.doms)&&askB m)))∧Hid (Mem w wr [(w.heap.size,25,mdC a m)] []))
   case atStart=>exact⟨0,rfl,Nat.zero_le _,rfl,HF2.out,HM.out⟩
   case round=>
    clear HF2 HM HBB m0 m1 m2 m3;obtain⟨j,hk,hj,rfl,HL,HM⟩:=hrel;have HBB:=ZH HM.out.bel;obtain⟨m0,m1,m2,m3⟩:=(HM.out.k (i:=0) rfl).four;by_cases hlt:j<m.doms.length
    ·have d5:decide ((j:Int)<(m.doms.length:Int))=true:=dT (by omega);have HC:Hid (F=((domB (m.doms.getD j [])&&(m.doms.drop (j+1)).all domB)&&(m.cons.all (mayC m.doms)&&askB m))):=HL.out.trans (by rw[drop_at (z:=[]) hlt,List.all_cons]);obtain⟨gd,od,hda,cd⟩:=(HH.out.ds.below HBB.out).ap j hlt;replace cd:wr.cell? ⟨gd,od+j,none⟩=some (.slice (a.ds.getD j ad0).1 (m.doms.getD j []).length (a.ds.getD j ad0).2):=cd;rw[hda];have HXA:=ZH hda;have HRR:=ZH ((HH.out.ds.below HBB.out).ar j hlt);have hrl:(m.doms.getD j []).length≤1000:=HZ.out.ds _ (by rw[gE,gG hlt];exact List.getElem_mem hlt);rw[hda]at m0;clear hda HL;generalize (a.ds.getD j ad0).1=DA at*;generalize (a.ds.getD j ad0).2=dc at*;generalize m.doms.getD j []=row at*;go_wp2_with fail;refine(domain_any HRR.out (by omega)).mono ?_;rintro e w5 ⟨rfl,q5⟩;have HM5:=ZH (HM.out.below q5);have HBB:=ZH (bT HBB.out q5);clear cd q5;cases htr:domB row with
     |false=>
      have HE:Hid (F=false):=HC.out.trans (by rw[htr];rfl);go_wp2_with fail;exact bodyPost_ret (v:= .bool false) (by simp[results,Tryz.results58,go_sem]) rfl ⟨by rw[HE.out],HBB.out⟩
     |true=>
      have HC2:Hid (F=((m.doms.drop (j+1)).all domB&&(m.cons.all (mayC m.doms)&&askB m))):=HC.out.trans (by rw[htr,Bool.true_and]);clear HC;go_wp2_with fail;rw[←HXA.out];go_roundg (m.doms.length-(j+1))
      case measure=>omega
      case rel=>exact⟨j+1,rfl,by omega,by simp,HC2.out,HM5.out⟩
    ·have d5:decide ((j:Int)<(m.doms.length:Int))=false:=dF (by omega);have HF3:Hid (F=((m.cons.drop 0).all (mayC m.doms)&&askB m)):=HL.out.trans (by rw[drop_none hlt];rfl);clear HL;obtain⟨W0,rfl⟩:∃W0,W0=wr:=⟨_,rfl⟩;go_wp2_with fail;go_loopg [31] m.cons.length (fun k p wr=>∃j,k=m.cons.length-j∧j≤m.cons.length∧p= .int .i64 (j:Nat)∧Hid (F=((m.cons.drop j).all (mayC m.doms)&&askB m))∧Hid (Mem w wr [(w.heap.size,25,mdC a m)] []))
     case atStart=>exact⟨0,rfl,Nat.zero_le _,rfl,HF3.out,HM.out⟩
     case round=>
      clear HF3 HM HBB m0 m1 m2 m3 d5 hlt;obtain⟨i,hk2,hi,rfl,HL,HM⟩:=hrel;have HBB:=ZH HM.out.bel;obtain⟨m0,m1,m2,m3⟩:=(HM.out.k (i:=0) rfl).four;by_cases hlt:i<m.cons.length
      ·have d5:decide ((i:Int)<(m.cons.length:Int))=true:=dT (by omega);have HC:Hid (F=((mayC m.doms (m.cons.getD i cn0)&&(m.cons.drop (i+1)).all (mayC m.doms))&&askB m)):=HL.out.trans (by rw[drop_at (z:=cn0) hlt,List.all_cons]);obtain⟨gc,oc,hca,c0,c1,c2,c3⟩:=(HH.out.cs.below HBB.out).at hlt;rw[hca];have HXA:=ZH hca;have HCR:=ZH ((HH.out.cs.below HBB.out).cr i hlt);have hcl:=HZ.out.cs (m.cons.getD i cn0) (by rw[gE,gG hlt];exact List.getElem_mem hlt);rw[hca]at m1;clear hca HL;generalize m.cons.getD i cn0=cc at*;generalize a.xs.getD i ad0=xa at*;generalize a.as_.getD i ad0=aa at*;obtain⟨hcx,hcal⟩:=hcl;have HM2:=ZH (HM.out.new 69 (cnC xa aa cc));have HBW:=ZH HM2.out.bel;obtain⟨n0,n1,n2,n3⟩:=(HM2.out.k (i:=1) rfl).four;obtain⟨b0,b1,b2,b3⟩:=(HM2.out.k (i:=0) rfl).four;go_wp2_with fail;refine(may_any (a:=a) (m:=m) (HH.out.ds.below (bT HBB.out (bA1 _ _))) z1 (fun i hi=>HZ.out.ds _ (by rw[gE,gG hi];exact List.getElem_mem hi)) (HCR.out.below (bA1 _ _)) hcx hcal).mono ?_;rintro e w5 ⟨rfl,q5⟩;have HM5:=ZH ((HM2.out.below q5).sub (Ks':=[(w.heap.size,25,mdC a m)]) (Rs':=[]) (by simp) (by simp));have HBB:=ZH HM5.out.bel;clear c0 c1 c2 c3 n0 n1 n2 n3 b0 b1 b2 b3 q5;cases htr:mayC m.doms cc with
       |false=>
        have HE:Hid (F=false):=HC.out.trans (by rw[htr];rfl);go_wp2_with fail;exact bodyPost_ret (v:= .bool false) (by simp[results,Tryz.results58,go_sem]) rfl ⟨by rw[HE.out],HBB.out⟩
       |true=>
        have HC2:Hid (F=((m.cons.drop (i+1)).all (mayC m.doms)&&askB m)):=HC.out.trans (by rw[htr,Bool.true_and]);clear HC;go_wp2_with fail;rw[←HXA.out];go_roundg (m.cons.length-(i+1))
        case measure=>omega
        case rel=>exact⟨i+1,rfl,by omega,by simp,HC2.out,HM5.out⟩
      ·have d5:decide ((i:Int)<(m.cons.length:Int))=false:=dF (by omega);have HE0:Hid (F=askB m):=HL.out.trans (by rw[drop_none hlt];rfl);clear HL;by_cases g0:m.ask=0
       ·have d6:(m.ask==0)=true:=beq_iff_eq.2 g0;have HE:Hid (F=decide (m.goal=0)):=HE0.out.trans (by unfold askB;rw[if_pos g0]);go_wp2_with fail;exact bodyPost_ret (v:= .bool (decide (m.goal=0))) (by simp[results,Tryz.results58,go_sem];rfl) rfl ⟨by rw[HE.out],HBB.out⟩
       ·have d6:(m.ask==0)=false:=beq_false_of_ne g0;by_cases g1:m.ask=1∨m.ask=2
        ·have HE:Hid (F=(decide (0≤m.goal)&&decide (m.goal<m.doms.length))):=HE0.out.trans (by unfold askB;rw[if_neg g0,if_pos g1]);by_cases g2:0≤m.goal
         ·have d7:decide (0≤m.goal)=true:=dT g2;have HE2:Hid (F=decide (m.goal<m.doms.length)):=HE.out.trans (by rw[d7,Bool.true_and]);clear HE;rcases g1 with g1|g1
          ·have d8:(m.ask==1)=true:=beq_iff_eq.2 g1;go_wp2_with fail;exact bodyPost_ret (v:= .bool (decide (m.goal<m.doms.length))) (by simp[results,Tryz.results58,go_sem]) rfl ⟨by rw[HE2.out],HBB.out⟩
          ·have d8:(m.ask==1)=false:=beq_false_of_ne (by omega);have d9:(m.ask==2)=true:=beq_iff_eq.2 g1;go_wp2_with fail;exact bodyPost_ret (v:= .bool (decide (m.goal<m.doms.length))) (by simp[results,Tryz.results58,go_sem]) rfl ⟨by rw[HE2.out],HBB.out⟩
         ·have d7:decide (0≤m.goal)=false:=dF g2;have HE2:Hid (F=false):=HE.out.trans (by rw[d7,Bool.false_and]);clear HE;have HE:=HE2;rcases g1 with g1|g1
          ·have d8:(m.ask==1)=true:=beq_iff_eq.2 g1;go_wp2_with fail;exact bodyPost_ret (v:= .bool false) (by simp[results,Tryz.results58,go_sem]) rfl ⟨by rw[HE.out],HBB.out⟩
          ·have d8:(m.ask==1)=false:=beq_false_of_ne (by omega);have d9:(m.ask==2)=true:=beq_iff_eq.2 g1;go_wp2_with fail;exact bodyPost_ret (v:= .bool false) (by simp[results,Tryz.results58,go_sem]) rfl ⟨by rw[HE.out],HBB.out⟩
        ·have d8:(m.ask==1)=false:=beq_false_of_ne (by omega);have d9:(m.ask==2)=false:=beq_false_of_ne (by omega);have HE:Hid (F=false):=HE0.out.trans (by unfold askB;rw[if_neg g0,if_neg g1]);go_wp2_with fail;exact bodyPost_ret (v:= .bool false) (by simp[results,Tryz.results58,go_sem]) rfl ⟨by rw[HE.out],HBB.out⟩
  ·have d2:decide ((64:Int)<(m.cons.length:Int))=true:=dT (by omega);have HE:Hid (F=false):=HF.out.trans (by rw[dF h2,Bool.false_and,Bool.and_false]);go_enter Tryz.func58,Tryz.ntmps58;go_wp2_with fail;exact bodyPost_ret (v:= .bool false) (by simp[results,Tryz.results58,go_sem]) rfl ⟨by rw[HE.out],HBB.out⟩
 ·have d1:decide ((64:Int)<(m.doms.length:Int))=true:=dT (by omega);have HE:Hid (F=false):=HF.out.trans (by rw[dF h1,Bool.false_and]);go_enter Tryz.func58,Tryz.ntmps58;go_wp2_with fail;exact bodyPost_ret (v:= .bool false) (by simp[results,Tryz.results58,go_sem]) rfl ⟨by rw[HE.out],HBB.out⟩
theorem rlxfit_any {w:World}{a:Mp}{m:Md}{D:Option Addr}{Dc:Nat}{ds:List Adr}{d:List (List (Int×Int))}(h:MdAt w a m)(hd:DsAt w D ds d)(hz:MdSz m)(hzd:MdSz {m with doms:=d}):Calls Tryz.prog 29 #[.agg (mdC a m),.slice D d.length Dc] w fun e w'=>e= .returned (.bool (fitM m d))∧Below w.heap.size w w':=by
 have HR:Hid (∀w',Below w.heap.size w w'→Calls Tryz.prog 58 #[.agg #[.slice D d.length Dc,.slice a.cons.1 m.cons.length a.cons.2,iw m.ask,iw m.goal]] w' fun e w2=>e= .returned (.bool (rightM {m with doms:=d}))∧Below w'.heap.size w' w2):=fun w' q=>
  mright_any (a:={a with doms:=(D,Dc),ds:=ds}) (m:={m with doms:=d}) ⟨hd.below q,h.cs.below q⟩ hzd
 have M:=(Mem.start w).new 25 (mdC a m);obtain⟨m0,m1,m2,m3⟩:=(M.k (i:=0) rfl).four;have z1:=hz.doms;have z2:d.length≤1000:=hzd.doms;clear h hd hz hzd;by_cases hl:d.length=m.doms.length
 ·have d1:((d.length:Int) !=(m.doms.length:Int))=false:=by rw[hl];simp
  obtain⟨F,hF⟩:∃F,rightM {m with doms:=d}=F:=⟨_,rfl⟩;have hf:fitM m d=F:=by unfold fitM;rw[dT hl,hF];rfl
  rw[hF]at HR;rw[hf];clear hF hf hl;go_enter Tryz.func29,Tryz.ntmps29;go_wp2_with fail;refine(HR.out _ (bA1 _ _)).mono ?_;rintro e w6 ⟨rfl,q6⟩;have HB:=ZH (bT (bA1 _ _) q6);clear q6;go_wp2_with fail;exact bodyPost_ret (v:= .bool F) (by simp[results,Tryz.results29,go_sem]) rfl ⟨rfl,HB.out⟩
 ·have d1:((d.length:Int) !=(m.doms.length:Int))=true:=bne_iff_ne.2 (by omega);have hf:fitM m d=false:=by unfold fitM;rw[dF hl];rfl
  rw[hf];have HB:=ZH M.bel;go_enter Tryz.func29,Tryz.ntmps29;go_wp2_with fail;exact bodyPost_ret (v:= .bool false) (by simp[results,Tryz.results29,go_sem]) rfl ⟨rfl,HB.out⟩
theorem ranges_after:∀(l:List (Int×Int))(h:Int),rangesB (some h) l=true→∀q∈l,h<q.1∧q.1≤q.2
 |[],_,_,q,hq=>by cases hq
 |r::l,h,hr,q,hq=>by
  have h0:(rangeB (some h) r&&rangesB (some r.2) l)=true:=hr;rw[Bool.and_eq_true]at h0;obtain⟨h1,h2⟩:=h0;unfold rangeB at h1;simp only[Bool.and_eq_true,decide_eq_true_eq]at h1;rcases List.mem_cons.1 hq with rfl|hq
  ·omega
  ·have:=ranges_after l r.2 h2 q hq;omega
theorem ranges_tail {p:Option Int}{r:Int×Int}{l:List (Int×Int)}(h:rangesB p (r::l)=true):r.1≤r.2∧rangesB (some r.2) l=true:=by
 have h0:(rangeB p r&&rangesB (some r.2) l)=true:=h;rw[Bool.and_eq_true]at h0;obtain⟨h1,h2⟩:=h0;unfold rangeB at h1;simp only[Bool.and_eq_true,decide_eq_true_eq]at h1;exact⟨h1.1,h2⟩
theorem meetR_some {lo hi:Int}{r q:Int×Int}(h:meetR lo hi r=some q):q.1≤q.2∧r.1≤q.1∧q.2≤r.2∧lo≤q.1∧q.2≤hi:=by
 unfold meetR at h;split at h
 ·cases h;refine⟨by assumption,?_,?_,?_,?_⟩<;>omega
 ·cases h
theorem meetR_none {lo hi:Int}{r:Int×Int}(h:hi<r.1∨r.2<lo):meetR lo hi r=none:=by
 unfold meetR;rw[if_neg];omega
theorem meetR_in {lo hi:Int}{r:Int×Int}(h1:r.1≤r.2)(h2:lo≤r.1)(h3:r.2≤hi):meetR lo hi r=some r:=by
 unfold meetR;have e1:max r.1 lo=r.1:=by omega
 have e2:min r.2 hi=r.2:=by omega
 rw[e1,e2,if_pos h1]
theorem filter_none {f:Int×Int→Option (Int×Int)}:∀(l:List (Int×Int)),(∀q∈l,f q=none)→l.filterMap f=[]
 |[],_=>rfl
 |q::l,h=>by
  rw[List.filterMap_cons,h q List.mem_cons_self];exact filter_none l fun q' hq=>h q' (List.mem_cons_of_mem _ hq)
theorem cut_mem {lo hi h:Int}{l:List (Int×Int)}(hl:rangesB (some h) l=true):∀q∈l.filterMap (meetR lo hi),h<q.1∧q.1≤q.2:=fun q hq=>by
 obtain⟨r,hr,e⟩:=List.mem_filterMap.1 hq;have:=meetR_some e;have:=ranges_after l h hl r hr;omega
theorem flat_congr {f g:Int×Int→List (Int×Int)}:∀(l:List (Int×Int)),(∀q∈l,f q=g q)→l.flatMap f=l.flatMap g
 |[],_=>rfl
 |q::l,h=>by
  rw[List.flatMap_cons,List.flatMap_cons,h q List.mem_cons_self,flat_congr l fun q' hq=>h q' (List.mem_cons_of_mem _ hq)]
theorem meet_cuts:∀(d:List (Int×Int))(p:Option Int),rangesB p d=true→∀{l1 h1 l2 h2:Int},l2≤l1→h1≤h2→(d.filterMap (meetR l2 h2)).flatMap (fun r=>(d.filterMap (meetR l1 h1)).filterMap (meetR r.1 r.2))=d.filterMap (meetR l1 h1)
 |[],_,_,l1,h1,l2,h2,_,_=>rfl
 |r::d,p,hp,l1,h1,l2,h2,hl,hh=>by
  obtain⟨e1,e2⟩:=ranges_tail hp;have ih:=meet_cuts d (some r.2) e2 hl hh;have hA:=cut_mem (lo:=l1) (hi:=h1) e2;have hB:=cut_mem (lo:=l2) (hi:=h2) e2;rw[List.filterMap_cons,List.filterMap_cons];cases ha:meetR l1 h1 r with
  |none=>
   dsimp only;cases hb:meetR l2 h2 r with
   |none=>exact ih
   |some br=>
    dsimp only;rw[List.flatMap_cons,ih,filter_none _ fun q hq=> ?_]
    ·rfl
    ·have k1:=hA q hq;have k2:=meetR_some hb;exact meetR_none (.inl (by omega))
  |some ar=>
   dsimp only;have k1:=meetR_some ha;have hb:∃br,meetR l2 h2 r=some br∧br.1≤ar.1∧ar.2≤br.2:=by
    unfold meetR at ha⊢;split at ha
    ·cases ha;rw[if_pos (by omega)];exact⟨_,rfl,by dsimp only;omega,by dsimp only;omega⟩
    ·cases ha
   obtain⟨br,hb1,hb2,hb3⟩:=hb;have k2:=meetR_some hb1;rw[hb1];dsimp only;rw[List.flatMap_cons,List.filterMap_cons,meetR_in k1.1 hb2 hb3];dsimp only;rw[filter_none (d.filterMap (meetR l1 h1)) fun q hq=> ?_,flat_congr _ fun q hq=> ?_,ih]
   ·rfl
   ·have k3:=hB q hq;rw[List.filterMap_cons,meetR_none (.inr (by omega))]
   ·have k3:=hA q hq;exact meetR_none (.inl (by omega))
theorem cut_all:∀(d:List (Int×Int))(p:Option Int),rangesB p d=true→∀{lo hi:Int},lo≤-1048576→1048576≤hi→d.filterMap (meetR lo hi)=d
 |[],_,_,lo,hi,_,_=>rfl
 |r::d,p,hp,lo,hi,h1,h2=>by
  obtain⟨e1,e2⟩:=ranges_tail hp;have h0:(rangeB p r&&rangesB (some r.2) d)=true:=hp;unfold rangeB at h0;simp only[Bool.and_eq_true,decide_eq_true_eq]at h0;have w1:=within_in h0.1.2.1;have w2:=within_in h0.1.2.2.1;rw[List.filterMap_cons,meetR_in e1 (by omega) (by omega)];dsimp only;rw[cut_all d (some r.2) e2 h1 h2]
theorem ranges_weak:∀(l:List (Int×Int))(h h':Int),h'≤h→rangesB (some h) l=true→rangesB (some h') l=true
 |[],_,_,_,_=>rfl
 |r::l,h,h',hh,hr=>by
  have h0:(rangeB (some h) r&&rangesB (some r.2) l)=true:=hr;show(rangeB (some h') r&&rangesB (some r.2) l)=true;rw[Bool.and_eq_true]at h0⊢;refine⟨?_,h0.2⟩;have h1:=h0.1;unfold rangeB at h1⊢;simp only[Bool.and_eq_true,decide_eq_true_eq]at h1⊢;exact⟨h1.1,h1.2.1,h1.2.2.1,by omega⟩
theorem ranges_none:∀(l:List (Int×Int))(p:Option Int),rangesB p l=true→rangesB none l=true
 |[],_,_=>rfl
 |r::l,p,hr=>by
  have h0:(rangeB p r&&rangesB (some r.2) l)=true:=hr;show(rangeB none r&&rangesB (some r.2) l)=true;rw[Bool.and_eq_true]at h0⊢;refine⟨?_,h0.2⟩;have h1:=h0.1;unfold rangeB at h1⊢;simp only[Bool.and_eq_true,decide_eq_true_eq]at h1⊢;exact⟨h1.1,h1.2.1,h1.2.2.1,trivial⟩
theorem cut_set:∀(d:List (Int×Int))(p:Option Int),rangesB p d=true→∀(lo hi:Int),rangesB p (d.filterMap (meetR lo hi))=true
 |[],_,_,_,_=>rfl
 |r::d,p,hp,lo,hi=>by
  obtain⟨e1,e2⟩:=ranges_tail hp;have h0:(rangeB p r&&rangesB (some r.2) d)=true:=hp;rw[Bool.and_eq_true]at h0;have h1:=h0.1;unfold rangeB at h1;simp only[Bool.and_eq_true,decide_eq_true_eq]at h1;have w1:=within_in h1.2.1;have w2:=within_in h1.2.2.1;have ih:=cut_set d (some r.2) e2 lo hi;rw[List.filterMap_cons];cases ha:meetR lo hi r with
  |none=>
   dsimp only;cases p with
   |none=>exact ranges_none _ _ ih
   |some h=>
    refine ranges_weak _ r.2 h ?_ ih;have h3:decide (2≤r.1-h)=true:=h1.2.2.2;rw[decide_eq_true_eq]at h3;omega
  |some q=>
   have k:=meetR_some ha;have hq1:withinB q.1=true:=by
    unfold withinB;rw[Bool.and_eq_true,decide_eq_true_eq,decide_eq_true_eq];omega
   have hq2:withinB q.2=true:=by
    unfold withinB;rw[Bool.and_eq_true,decide_eq_true_eq,decide_eq_true_eq];omega
   show(rangeB p q&&rangesB (some q.2) (d.filterMap (meetR lo hi)))=true;rw[Bool.and_eq_true];refine⟨?_,ranges_weak _ r.2 q.2 k.2.2.1 ih⟩;unfold rangeB;simp only[Bool.and_eq_true,decide_eq_true_eq];refine⟨k.1,hq1,hq2,?_⟩;cases p with
   |none=>trivial
   |some h=>
    have h3:decide (2≤r.1-h)=true:=h1.2.2.2;rw[decide_eq_true_eq]at h3;show decide (2≤q.1-h)=true;rw[decide_eq_true_eq];omega
def Less (d x z:List (Int×Int)):Prop:=∃l1 h1 l2 h2:Int,l2≤l1∧h1≤h2∧x=d.filterMap (meetR l1 h1)∧z=d.filterMap (meetR l2 h2)
theorem Less.refl {d:List (Int×Int)}(h:setB d=true):Less d d d:=⟨-1048576,1048576,-1048576,1048576,by decide,by decide,(cut_all d none h (by decide) (by decide)).symm,(cut_all d none h (by decide) (by decide)).symm⟩
theorem Less.all {d:List (Int×Int)}(h:setB d=true)(lo hi:Int):Less d (d.filterMap (meetR lo hi)) d:=
 ⟨lo,hi,min lo (-1048576),max hi 1048576,by omega,by omega,rfl,(cut_all d none h (by omega) (by omega)).symm⟩
theorem Less.ne {d x z:List (Int×Int)}(h:Less d x z)(hx:x≠[]):z≠[]:=fun hz=>by
 obtain⟨l1,h1,l2,h2,e1,e2,rfl,rfl⟩:=h;apply hx;refine filter_none d fun q hq=> ?_;cases hm:meetR l1 h1 q with
 |none=>rfl
 |some r=>
  exfalso;have k:=meetR_some hm;have hm2:∃r',meetR l2 h2 q=some r':=by
   unfold meetR;rw[if_pos (by omega)];exact⟨_,rfl⟩
  obtain⟨r',hr'⟩:=hm2;have:r'∈d.filterMap (meetR l2 h2):=List.mem_filterMap.2 ⟨q,hq,hr'⟩;rw[hz]at this;cases this
def meetS (a b:List (Int×Int)):List (Int×Int):=if setB a&&setB b then b.flatMap fun r=>a.filterMap (meetR r.1 r.2) else[]
theorem Less.meet {d x z:List (Int×Int)}(hd:setB d=true)(h:Less d x z):setB x=true∧meetS x z=x:=by
 obtain⟨l1,h1,l2,h2,e1,e2,rfl,rfl⟩:=h;have k1:setB (d.filterMap (meetR l1 h1))=true:=cut_set d none hd l1 h1;have k2:setB (d.filterMap (meetR l2 h2))=true:=cut_set d none hd l2 h2;refine⟨k1,?_⟩;unfold meetS;rw[k1,k2];exact meet_cuts d none hd e1 e2
theorem far_less {r1 r2 w:Rat}(hw:0<w)(h:r1≤r2){o1 o2:Option Int}(h1:farO r1 w=some o1)(h2:farO r2 w=some o2):o2=none∨∃n1 n2,o1=some n1∧o2=some n2∧n1≤n2:=by
 unfold farO at h1 h2;obtain⟨q1,a1,b1⟩:=Option.map_eq_some_iff.1 h1;obtain⟨q2,a2,b2⟩:=Option.map_eq_some_iff.1 h2;obtain⟨e1,_,_⟩:=div_some a1;obtain⟨e2,_,_⟩:=div_some a2;have hq:q1≤q2:=by
  have w0:w≠0:=by grind
  have d1:w*(r1/w)=r1:=by grind
  have d2:w*(r2/w)=r2:=by grind
  rw[←e1]at d1;rw[←e2]at d2;apply Rat.not_lt.1;intro hlt;have:=Rat.mul_pos hw (show 0<q1-q2 by grind);grind
 have hf:=floor_mono hq;by_cases c2:q2.floor≤4194304
 ·rw[if_pos c2]at b2;rw[if_pos (by omega)]at b1;exact .inr ⟨_,_,b1.symm,b2.symm,hf⟩
 ·rw[if_neg c2]at b2;exact .inl b2.symm
theorem cut_less {p:Pg}{y:List Rat}{r1 r2:Rat}{j:Nat}{d x z:List (Int×Int)}(hd:setB d=true)(h:r1≤r2)(h1:cutO p y r1 j d=some x)(h2:cutO p y r2 j d=some z):Less d x z:=by
 unfold cutO at h1 h2;obtain⟨w,hw,h1⟩:=Option.bind_eq_some_iff.1 h1;rw[hw]at h2;replace h2:(if w=0 then some d else if 0<w then(farO r2 w).map fun n=>match n with
  |none=>d
  |some n=>cutS d (-1048576) (p.lo.getD j 0+n)
  else(farO r2 (-w)).map fun n=>match n with
  |none=>d
  |some n=>cutS d (p.hi.getD j 0-n) 1048576)=some z:=h2
 have cut:∀lo hi,cutS d lo hi=d.filterMap (meetR lo hi):=fun lo hi=>by
  unfold cutS;rw[if_pos hd]
 by_cases w0:w=0
 ·rw[if_pos w0]at h1 h2;cases h1;cases h2;exact Less.refl hd
 ·rw[if_neg w0]at h1 h2;by_cases w1:0<w
  ·rw[if_pos w1]at h1 h2;obtain⟨o1,a1,b1⟩:=Option.map_eq_some_iff.1 h1;obtain⟨o2,a2,b2⟩:=Option.map_eq_some_iff.1 h2;rcases far_less w1 h a1 a2 with rfl|⟨n1,n2,rfl,rfl,hn⟩
   ·subst b2;cases o1 with
    |none=>
     subst b1;exact Less.refl hd
    |some n=>
     subst b1;show Less d (cutS d _ _) d;rw[cut];exact Less.all hd _ _
   ·subst b1;subst b2;show Less d (cutS d _ _) (cutS d _ _);rw[cut,cut];exact⟨_,_,_,_,Int.le_refl _,by omega,rfl,rfl⟩
  ·rw[if_neg w1]at h1 h2;obtain⟨o1,a1,b1⟩:=Option.map_eq_some_iff.1 h1;obtain⟨o2,a2,b2⟩:=Option.map_eq_some_iff.1 h2;rcases far_less (w:= -w) (by grind) h a1 a2 with rfl|⟨n1,n2,rfl,rfl,hn⟩
   ·subst b2;cases o1 with
    |none=>
     subst b1;exact Less.refl hd
    |some n=>
     subst b1;show Less d (cutS d _ _) d;rw[cut];exact Less.all hd _ _
   ·subst b1;subst b2;show Less d (cutS d _ _) (cutS d _ _);rw[cut,cut];exact⟨_,_,_,_,by omega,Int.le_refl _,rfl,rfl⟩
def LessL:List (List (Int×Int))→List (List (Int×Int))→List (List (Int×Int))→Prop
 |[],[],[]=>True
 |d::ds,x::xs,z::zs=>Less d x z∧LessL ds xs zs
 |_,_,_=>False
theorem LessL.refl:∀(ds:List (List (Int×Int))),(∀d∈ds,setB d=true)→LessL ds ds ds
 |[],_=>trivial
 |d::ds,h=>⟨Less.refl (h d List.mem_cons_self),LessL.refl ds fun d' hd=>h d' (List.mem_cons_of_mem _ hd)⟩
theorem cuts_less {p:Pg}{y:List Rat}{r1 r2:Rat}(h:r1≤r2):∀(ds:List (List (Int×Int)))(j:Nat){xs zs:List (List (Int×Int))},(∀d∈ds,setB d=true)→cutsO p y r1 j ds=some xs→cutsO p y r2 j ds=some zs→LessL ds xs zs
 |[],j,xs,zs,_,h1,h2=>by
  unfold cutsO at h1 h2;cases h1;cases h2;trivial
 |d::ds,j,xs,zs,hd,h1,h2=>by
  unfold cutsO at h1 h2;obtain⟨x,a1,h1⟩:=Option.bind_eq_some_iff.1 h1;obtain⟨z,a2,h2⟩:=Option.bind_eq_some_iff.1 h2;obtain⟨xs',b1,rfl⟩:=Option.map_eq_some_iff.1 h1;obtain⟨zs',b2,rfl⟩:=Option.map_eq_some_iff.1 h2;exact⟨cut_less (hd d List.mem_cons_self) h a1 a2,cuts_less h ds (j+1) (fun d' hd'=>hd d' (List.mem_cons_of_mem _ hd')) b1 b2⟩
theorem cuts_all {p:Pg}{y:List Rat}{r:Rat}:∀(ds:List (List (Int×Int)))(j:Nat){xs:List (List (Int×Int))},(∀d∈ds,setB d=true)→cutsO p y r j ds=some xs→LessL ds xs ds
 |[],j,xs,_,h1=>by
  unfold cutsO at h1;cases h1;trivial
 |d::ds,j,xs,hd,h1=>by
  unfold cutsO at h1;obtain⟨x,a1,h1⟩:=Option.bind_eq_some_iff.1 h1;obtain⟨xs',b1,rfl⟩:=Option.map_eq_some_iff.1 h1;have hs:=hd d List.mem_cons_self;refine⟨?_,cuts_all ds (j+1) (fun d' hd'=>hd d' (List.mem_cons_of_mem _ hd')) b1⟩;have cut:∀lo hi,cutS d lo hi=d.filterMap (meetR lo hi):=fun lo hi=>by
   unfold cutS;rw[if_pos hs]
  unfold cutO at a1;obtain⟨w,hw,a1⟩:=Option.bind_eq_some_iff.1 a1;split at a1
  ·cases a1;exact Less.refl hs
  ·split at a1
   ·obtain⟨o,_,rfl⟩:=Option.map_eq_some_iff.1 a1;cases o with
    |none=>exact Less.refl hs
    |some n=>
     show Less d (cutS d _ _) d;rw[cut];exact Less.all hs _ _
   ·obtain⟨o,_,rfl⟩:=Option.map_eq_some_iff.1 a1;cases o with
    |none=>exact Less.refl hs
    |some n=>
     show Less d (cutS d _ _) d;rw[cut];exact Less.all hs _ _
theorem LessL.empty:∀{ds xs zs:List (List (Int×Int))},LessL ds xs zs→emptyB xs=false→emptyB zs=false
 |[],[],[],_,_=>rfl
 |d::ds,x::xs,z::zs,⟨h1,h2⟩,h=>by
  have h0:(x.isEmpty||emptyB xs)=false:=h;rw[Bool.or_eq_false_iff]at h0;show(z.isEmpty||emptyB zs)=false;rw[LessL.empty h2 h0.2,Bool.or_false];have hz:=h1.ne fun e=>by rw[e]at h0;cases h0.1
  cases z with
  |nil=>exact absurd rfl hz
  |cons a b=>rfl
 |[],_::_,_,h,_=>h.elim
 |[],[],_::_,h,_=>h.elim
 |_::_,[],_,h,_=>h.elim
 |_::_,_::_,[],h,_=>h.elim
theorem dom_set {l:List (Int×Int)}(h:domB l=true):setB l=true:=by
 unfold domB at h;rw[Bool.and_eq_true]at h;exact h.1
theorem filter_more {m:Md}{d:List (List (Int×Int))}{y:List Rat}{good:Bool}{lo hi:Int}(h:lo≤hi)(hlo: -1099511627776≤lo)(hhi:hi≤1099511627776):((filterM m d y good lo).2=12→(filterM m d y good hi).2=12∨(filterM m d y good hi).2=0∨(filterM m d y good hi).2=3)∧((filterM m d y good lo).2=0→(filterM m d y good hi).2=3∨(filterM m d y good hi).2=0∧fitM m d=true∧LessL d (filterM m d y good lo).1 (filterM m d y good hi).1):=by
 by_cases hg:(fitM m d&&good)=true
 ·rw[Bool.and_eq_true]at hg;obtain⟨hf,hgd⟩:=hg;have hset:∀l∈d,setB l=true:=fun l hl=>dom_set ((fit_parts hf).2.2.2.1 l hl);unfold filterM;rw[if_pos (by rw[hf,hgd,dT hlo,dT (show lo≤1099511627776 by omega)];rfl),if_pos (by rw[hf,hgd,dT hhi,dT (show-1099511627776≤hi by omega)];rfl)];cases hb:leastP (ofP m d) y (some (ofP m d).c) with
  |none=>exact⟨(fun e=>by cases e),(fun e=>by cases e)⟩
  |some b=>
   dsimp only;cases h1:addO ((lo:Int):Rat) (-b) with
   |none=>exact⟨(fun e=>by cases e),(fun e=>by cases e)⟩
   |some r1=>
    cases h2:addO ((hi:Int):Rat) (-b) with
    |none=>
     dsimp only;exact⟨fun _=> .inr (.inr rfl),fun _=> .inl rfl⟩
    |some r2=>
     have hr:r1≤r2:=room_mono (Rat.intCast_le_intCast.2 h) h1 h2;dsimp only;refine⟨fun _=> ?_,fun e=> ?_⟩
     ·by_cases c2:r2<0
      ·rw[if_pos c2];exact .inl rfl
      ·rw[if_neg c2];cases (if hi=1099511627776 then some d else cutsO (ofP m d) y r2 0 d) with
       |none=>exact .inr (.inr rfl)
       |some out=>
        dsimp only;split
        ·exact .inl rfl
        ·exact .inr (.inl rfl)
     ·by_cases c1:r1<0
      ·rw[if_pos c1]at e;cases e
      ·rw[if_neg c1]at e⊢;rw[if_neg (show ¬r2<0 by grind)];cases o1:(if lo=1099511627776 then some d else cutsO (ofP m d) y r1 0 d) with
       |none=>
        rw[o1]at e;cases e
       |some xs=>
        rw[o1]at e;dsimp only at e⊢;cases hx:emptyB xs with
        |true=>
         rw[hx]at e;cases e
        |false=>
         cases o2:(if hi=1099511627776 then some d else cutsO (ofP m d) y r2 0 d) with
         |none=>exact .inl rfl
         |some zs=>
          dsimp only;have hl:LessL d xs zs:=by
           by_cases e2:hi=1099511627776
           ·rw[if_pos e2]at o2;cases o2;by_cases e1:lo=1099511627776
            ·rw[if_pos e1]at o1;cases o1;exact LessL.refl d hset
            ·rw[if_neg e1]at o1;exact cuts_all d 0 hset o1
           ·rw[if_neg e2]at o2;rw[if_neg (show ¬lo=1099511627776 by omega)]at o1;exact cuts_less hr d 0 hset o1 o2
          rw[hl.empty hx];exact .inr ⟨rfl,hf,hl⟩
 ·have hn:∀l,filterM m d y good l=([],2):=fun l=>by
   unfold filterM;rw[if_neg];intro e;simp only[Bool.and_eq_true]at e;exact hg (by rw[e.1,e.2.2.2];rfl)
  rw[hn lo];exact⟨(fun e=>by cases e),(fun e=>by cases e)⟩
theorem info_range:(Tryz.prog.info? 65).map (·.size)=some 2:=by kernel_rfl
theorem ends_good {w:World}{A:Option Addr}{c:Nat}{l:List (Int×Int)}(h:RRow w A l)(hs:l.length≤1000000)(hd:domB l=true):Calls Tryz.prog 30 #[.slice A l.length c] w fun e w'=>e= .returned (.tuple #[.agg #[.int .i64 (loD l),.int .i64 (hiD l)],.bool true])∧Below w.heap.size w w':=by
 have HR:=ZH (fun(w':World)(q:Below w.heap.size w w')=>setright_any (c:=c) (h.below q) hs);have HH:=ZH h;rw[dom_set hd]at HR;cases l with
 |nil=>cases hd
 |cons r l=>
  obtain⟨g,o,rfl,c0,_⟩:=h.at (j:=0) (by simp);obtain⟨g',o',e',_,c1⟩:=h.at (j:=l.length) (by simp);cases e';have e0:loD (r::l)=r.1:=rfl;have e1:hiD (r::l)=((r::l).getD l.length (0,0)).2:=by
   unfold hiD;rw[List.getLastD_cons];congr 1;rw[List.getLastD_eq_getLast?,List.getLast?_eq_getElem?];cases l with
   |nil=>rfl
   |cons y l=>
    rw[gE];simp
  rw[e0,e1];replace c0:w.cell? ⟨g,o,none⟩=some (.int .i64 r.1):=by simpa using c0
  have M:=(Mem.start w).new 65 #[.int .i64 0,.int .i64 0];have C0:=Lk.of c0;have C1:∀w',Below w.heap.size w w'→w'.cell? ⟨g,o+l.length*2+1,none⟩=some (.int .i64 ((r::l).getD l.length (0,0)).2):=Lk.of c1;rw[List.length_cons]at HR hs⊢;generalize ((r::l).getD l.length (0,0)).2=hi at*;generalize r.1=lo at*;generalize l.length=n at*;clear h e0 e1 c0 c1 hd HH;have d0:(((n+1:Nat):Int)==0)=false:=beq_false_of_ne (by omega);have x1:IntKind.i64.wrap (n:Int)=(n:Int):=by rw[IntKind.wrap_i64];omega
  have hb1:(n:Int)<(n:Int)+1:=by omega
  go_enter Tryz.func30,Tryz.ntmps30;go_wp2_with fail;refine(HR.out _ M.bel).mono ?_;rintro e w1 ⟨rfl,q1⟩;replace M:=M.below q1;clear q1 HR;go_upto_region 3 with fail;refine region_st (n:=14) (frame:= ?frame1) (fun jK=>[kF (.slice (some ⟨g,o,none⟩) (n+1) c),kP g o,kP g o,kI lo,kF (.slice (some ⟨g,o,none⟩) (n+1) c),kF (.slice (some ⟨g,o,none⟩) (n+1) c),kI (((n+1):Int)),kI ((n:Nat)),kP g (o+n*2),kP g (o+n*2+1),kI hi,kF (.agg #[.int .i64 lo,.int .i64 hi]),.none,kB true].getD jK .none) [⟨w.heap.size,12,65,#[.int .i64 0,.int .i64 0],.fix #[.int .i64 lo,.int .i64 hi]⟩] (by kernel_rfl) (by kernel_rfl) (by kernel_rfl) rfl (Mem.tailK M) (own_of M (by omega) (by simp<;>omega) rfl) own_one ?_ ?_ ?_
  case refine_1=>
   intro s;simp only[fr,Act.put,zA,zB,zC,zD,zE,zF,Nat.reduceAdd];rfl
  case refine_2=>
   iterate 14 (refine SN ?_ ?_;rotate_left)
   exact Steps.nil;all_goals (intro L s w9 hN hU hi hS K hK;dsimp only at hK⊢;simp only[Act.put,zD,zE,zF]at hK)
   ·go_simp;exact hS.o1 hK
   ·simp only[hS.f hN 0]at hK⊢;go_simp;exact hS.o1 hK
   ·simp only[hS.f hN 1]at hK⊢;go_simp;exact hS.o1 hK
   ·simp only[hS.f hN 2]at hK⊢;have u0:=C0 _ hS.mem.bel;go_simp;exact hS.o1 hK
   iterate 2 (go_simp;exact hS.o1 hK)
   ·simp only[hS.f hN 5]at hK⊢;go_simp;exact hS.o1 hK
   ·simp only[hS.f hN 6]at hK⊢;go_simp;exact hS.o1 hK
   ·simp only[hS.f hN 4,hS.f hN 7]at hK⊢;go_simp;exact hS.o1 hK
   ·simp only[hS.f hN 8]at hK⊢;go_simp;exact hS.o1 hK
   ·simp only[hS.f hN 9]at hK⊢;have u0:=C1 _ hS.mem.bel;go_simp;exact hS.o1 hK
   ·simp only[hS.f hN 3,hS.f hN 10]at hK⊢;go_simp;exact hS.o1 hK
   ·simp only[hS.f hN 11]at hK⊢;obtain⟨_,_,_,cs9,b9,n9,z9,_⟩:=hS.own_at 0 rfl;obtain rfl:=z9 hi.out;refine ite_of rfl ?_;refine wp_store_row _ _ _ rfl (w.heap.size) _ rfl rfl _ _ b9 info_range rfl (by rw[←Array.all_toList];rfl) ?_;simp only[Act.put];exact hK.out undef _ (hS.fillOwn (u:=undef) rfl (k:=0) rfl rfl rfl (sRG _ _ _) (b9.row _) rfl rfl)
   ·go_simp;exact hS.o1 hK
  intro L s w9 hall hS;obtain⟨_,_,_,ocs,ob,on,_,oz⟩:=hS.own_at 0 rfl;obtain rfl:=oz (hall 12 (by decide));have x1:_=some (Value.int .i64 lo):=ob.cell 0;have x2:_=some (Value.int .i64 hi):=ob.cell 1;have e13:=hS.fx 13 rfl rfl (hall 13 (by decide));have HB:=ZH hS.mem.bel;simp only[e13];go_wp2_with fail;exact bodyPost_ret (v:= .tuple #[.agg #[.int .i64 lo,.int .i64 hi],.bool true]) (by simp[results,Tryz.results30,go_sem,x1,x2]) rfl ⟨rfl,HB.out⟩
theorem ad1_run (args:Array Value)(w:World):Sem.run Tryz.prog (callFunc 108 args) w= .ok (.enter 108 args) w:=by kernel_rfl
theorem ad1_any (z:Int)(w:World):Calls Tryz.prog 108 #[.int .i64 z] w fun e w'=>e= .returned (.bool (!withinB z))∧Below w.heap.size w w':=by
 by_cases h1:1048576<z
 ·have d1:decide (1048576<z)=true:=dT h1;have hw:withinB z=false:=by unfold withinB;rw[dF (show ¬z≤1048576 by omega),Bool.and_false]
  rw[hw];go_enter Tryz.func108,Tryz.ntmps108;go_wp2_with fail;exact bodyPost_ret (v:= .bool true) (by simp[results,Tryz.results108,go_sem]) rfl ⟨rfl,Below.refl _ _⟩
 ·have d1:decide (1048576<z)=false:=dF h1;have hw:withinB z= !decide (z< -1048576):=by
   unfold withinB;rw[dT (show z≤1048576 by omega),Bool.and_true];by_cases h2:z< -1048576
   ·rw[dT h2,dF (show ¬ -1048576≤z by omega)];rfl
   ·rw[dF h2,dT (show-1048576≤z by omega)];rfl
  rw[hw,Bool.not_not];generalize hb:decide (z< -1048576)=b;go_enter Tryz.func108,Tryz.ntmps108;go_wp2_with fail;exact bodyPost_ret (v:= .bool b) (by simp[results,Tryz.results108,go_sem];try (rw[←hb];simp)) rfl ⟨rfl,Below.refl _ _⟩
abbrev tyRw:TypeId:=76
abbrev tyIs:TypeId:=28
abbrev tyI6:TypeId:=2
def rowVs (rs:List Adr)(a:List (List Int)):List Value:=(List.range a.length).map fun i=> .slice (rs.getD i ad0).1 (a.getD i []).length (rs.getD i ad0).2
structure RwAt (w:World) (base g:Nat) (m:Pa) (p:Pg):Prop where
 hd:Blk w g tyRw (pgC m p)
 gb:base≤g
 lo:IRow w m.lo.1 p.lo
 hi:IRow w m.hi.1 p.hi
 c:IRow w m.c.1 p.c
 ap:NRow w base tyIs 1 (.slice m.a.1 p.a.length m.a.2) p.a.length (rowVs m.rs p.a)
 bp:NRow w base tyI6 1 (.slice m.b.1 p.b.length m.b.2) p.b.length (p.b.map iw)
 ar:∀i,i<p.a.length→IRow w (m.rs.getD i ad0).1 (p.a.getD i [])
 rl:m.rs.length=p.a.length
 na:∀k,bl m.a.1=some k→k≠g
 nb:∀k,bl m.b.1=some k→k≠g∧bl m.a.1≠some k
 fix:∀k,(bl m.lo.1=some k∨bl m.hi.1=some k∨bl m.c.1=some k∨∃i,i<p.a.length∧bl (m.rs.getD i ad0).1=some k)→k<w.heap.size∧k≠g∧bl m.a.1≠some k∧bl m.b.1≠some k
 fb:∀k,(bl m.lo.1=some k∨bl m.hi.1=some k∨bl m.c.1=some k∨∃i,i<p.a.length∧bl (m.rs.getD i ad0).1=some k)→base≤k
theorem RwAt.below {w w':World}{base g:Nat}{m:Pa}{p:Pg}(h:RwAt w base g m p)(q:Below w.heap.size w w'):RwAt w' base g m p:=
 ⟨h.hd.below q ZL,h.gb,h.lo.below q,h.hi.below q,h.c.below q,h.ap.below q,h.bp.below q,fun i hi=>(h.ar i hi).below q,h.rl,h.na,h.nb,fun k hk=>⟨Nat.lt_of_lt_of_le (h.fix k hk).1 q.size,(h.fix k hk).2⟩,h.fb⟩
def OffR (m:Pa)(g k:Nat):Prop:=k≠g∧bl m.a.1≠some k∧bl m.b.1≠some k
structure Kp (g:Nat) (w w':World) (m m':Pa):Prop where
 size:w.heap.size≤w'.heap.size
 off:∀k,k<w.heap.size→OffR m g k→w'.heap[k]? =w.heap[k]?∧OffR m' g k
theorem Kp.trans {g:Nat}{w w1 w2:World}{m m1 m2:Pa}(h:Kp g w w1 m m1)(k:Kp g w1 w2 m1 m2):Kp g w w2 m m2:=
 ⟨Nat.le_trans h.size k.size,fun b hb ho=>by
  obtain⟨e1,o1⟩:=h.off b hb ho;obtain⟨e2,o2⟩:=k.off b (Nat.lt_of_lt_of_le hb h.size) o1;exact⟨e2.trans e1,o2⟩⟩
theorem Kp.of {g:Nat}{w w':World}(m:Pa)(q:Below w.heap.size w w'):Kp g w w' m m:=⟨q.size,fun b hb ho=>⟨q.block b hb,ho⟩⟩
theorem Kp.blk {g b:Nat}{w w':World}{m m':Pa}{t:TypeId}{cs:Array Value}(h:Kp g w w' m m')(hb:Blk w b t cs)(ho:OffR m g b):Blk w' b t cs∧OffR m' g b:=by
 obtain⟨e1,o1⟩:=h.off b hb.lt ho;exact⟨e1.trans hb,o1⟩
theorem rowVs_at {rs:List Adr}{a:List (List Int)}{i:Nat}(hi:i<a.length):(rowVs rs a)[i]? =some (.slice (rs.getD i ad0).1 (a.getD i []).length (rs.getD i ad0).2):=by
 unfold rowVs;rw[List.getElem?_map,List.getElem?_range hi];rfl
theorem rowVs_app {rs:List Adr}{a:List (List Int)}{R:Adr}{row:List Int}(h:rs.length=a.length):rowVs (rs++[R]) (a++[row])=rowVs rs a++[.slice R.1 row.length R.2]:=by
 unfold rowVs;rw[List.length_append,List.length_singleton,List.range_succ,List.map_append];congr 1
 ·refine List.map_congr_left fun i hi=> ?_;have hi:=List.mem_range.1 hi;rw[getD_app (l:=rs) (by omega),if_pos (by omega),getD_app (l:=a) (by omega),if_pos (by omega)]
 ·show[Value.slice ((rs++[R]).getD a.length ad0).1 ((a++[row]).getD a.length []).length ((rs++[R]).getD a.length ad0).2]=[_];rw[getD_app (l:=rs) (by omega),if_neg (by omega),getD_app (l:=a) (by omega),if_neg (by omega)]
theorem RwAt.pg {w:World}{base g:Nat}{m:Pa}{p:Pg}(h:RwAt w base g m p):PgAt w m p:=
 ⟨h.lo,h.hi,h.bp.crow fun j hj=>map_at _ hj,h.c,h.ap.crow fun j hj=>rowVs_at hj,h.ar⟩
theorem stp_app {w w4:World}{A:Option Addr}{g o:Nat}{u:Value}(hA:∀k,bl A=some k→Box w k)(hgr:w.grownBy w4 (bl A))(hg:Box w g)(hne:∀k,bl A=some k→k≠g)(hu:nu u=true):Stp (fun k=>k=g∨bl A=some k) w (w4.setCell ⟨g,o,none⟩ u)∧(∀{t cs},Blk w g t cs→Blk w4 g t cs)∧Box w4 g:=by
 have hs:Stp (fun k=>k=g∨bl A=some k) w w4:=by
  cases hx:bl A with
  |none=>
   rw[hx]at hgr;exact⟨hgr.os,hgr.tape,hgr.output,hgr.size,fun k hk _=>hgr.block k hk (by simp),fun r=>Rd.below r ⟨hgr.os,hgr.tape,hgr.output,hgr.size,fun k hk=>hgr.block k hk (by simp)⟩ ZL⟩
  |some b=>
   rw[hx]at hgr;exact Stp.wrote (hA b hx) hgr (.inr rfl)
 have kb:∀{t cs},Blk w g t cs→Blk w4 g t cs:=fun{t cs} hb=>(hgr.block g hb.lt fun e=>hne g e.symm rfl).trans hb;obtain⟨cs,t,e1,e2⟩:=hg;have hb4:Box w4 g:=(kb (t:=t) (cs:=cs) e1).box e2;exact⟨hs.trans (Stp.wrote hb4 (gSC w4 g o u) (.inl rfl)),kb,hb4⟩
theorem NRow.ltBl {w:World}{base:Nat}{e:TypeId}{size:Nat}{A:Option Addr}{c n:Nat}{xs:List Value}(h:NRow w base e size (.slice A n c) n xs){k:Nat}(hk:bl A=some k):base≤k∧k<w.heap.size:=World.ownsRow.lt h.1 k (by rw[own_bl];exact hk)
theorem RwAt.pushA {w w4:World}{base g:Nat}{m:Pa}{p:Pg}{A':Option Addr}{c':Nat}{R:Adr}{row:List Int}(h:RwAt w base g m p)(hR:IRow w R.1 row)(hk:∀k,bl R.1=some k→k<w.heap.size∧k≠g∧bl m.a.1≠some k∧bl m.b.1≠some k)(hkb:∀k,bl R.1=some k→base≤k)(hr:NRow w4 base tyIs 1 (.slice A' (p.a.length+1) c') (p.a.length+1) (rowVs m.rs p.a++[.slice R.1 row.length R.2]))(hgr:w.grownBy w4 (bl m.a.1))(hat:bl A'=bl m.a.1∨∀k,bl A'=some k→w.heap.size≤k):RwAt (w4.setCell ⟨g,2,none⟩ (.slice A' (p.a.length+1) c')) base g {m with a:=(A',c'),rs:=m.rs++[R]} {p with a:=p.a++[row]}∧∀w0,Below base w0 w→base≤w.heap.size→Below base w0 (w4.setCell ⟨g,2,none⟩ (.slice A' (p.a.length+1) c'))∧Kp g w (w4.setCell ⟨g,2,none⟩ (.slice A' (p.a.length+1) c')) m {m with a:=(A',c'),rs:=m.rs++[R]}:=by
 obtain⟨k,kb,hb4⟩:=stp_app (o:=2) (u:= .slice A' (p.a.length+1) c') (fun k hk=>h.ap.boxBl hk) hgr (h.hd.box rfl) h.na rfl;have hl:(p.a++[row]).length=p.a.length+1:=by rw[List.length_append,List.length_singleton]
 have ng:∀b,bl A'=some b→b≠g:=fun b hb e=>by
  rcases hat with h1|h1
  ·exact h.na b (h1▸hb) e
  ·have:=h1 b hb;have:=h.hd.lt;omega
 have fx:∀b,(bl m.lo.1=some b∨bl m.hi.1=some b∨bl m.c.1=some b∨∃i,i<p.a.length∧bl (m.rs.getD i ad0).1=some b)→¬(b=g∨bl m.a.1=some b):=fun b hb e=>by
  have:=h.fix b hb;rcases e with e|e
  ·exact this.2.1 e
  ·exact this.2.2.1 e
 have rx:∀b,bl R.1=some b→¬(b=g∨bl m.a.1=some b):=fun b hb e=>by
  have:=hk b hb;rcases e with e|e
  ·exact this.2.1 e
  ·exact this.2.2.1 e
 have bx:∀b,bl m.b.1=some b→¬(b=g∨bl m.a.1=some b):=fun b hb e=>by
  have:=h.nb b hb;rcases e with e|e
  ·exact this.1 e
  ·exact this.2 e
 have gt:∀i,i<p.a.length+1→(m.rs++[R]).getD i ad0=if i<p.a.length then m.rs.getD i ad0 else R:=fun i hi=>by
  rw[getD_app (l:=m.rs) (by rw[h.rl];exact hi),h.rl]
 refine⟨⟨?_,h.gb,h.lo.stp k fun b hb=>fx b (.inl hb),h.hi.stp k fun b hb=>fx b (.inr (.inl hb)),h.c.stp k fun b hb=>fx b (.inr (.inr (.inl hb))),?_,h.bp.stp k bx,fun i hi=> ?_,?_,ng,fun b hb=>⟨(h.nb b hb).1,fun e=> ?_⟩,fun b hb=> ?_,fun b hb=> ?_⟩,fun w0 hb hs=>⟨k.below hb hs fun b e=> ?_,k.size,fun b hb2 ho=>⟨k.block b hb2 fun e=>e.elim ho.1 ?_,ho.1,?_⟩⟩⟩
 ·show Blk _ g tyRw #[_,_,.slice A' (p.a++[row]).length c',_,_];rw[hl];exact(kb h.hd).set_ 2 _
 ·show NRow _ base tyIs 1 (.slice A' (p.a++[row]).length c') (p.a++[row]).length (rowVs (m.rs++[R]) (p.a++[row]));rw[hl,rowVs_app h.rl];exact hr.stp (Stp.wrote (S:=fun b=>b=g) hb4 (gSC w4 g 2 _) rfl) ng
 ·replace hi:i<(p.a++[row]).length:=hi;rw[hl]at hi;show IRow _ ((m.rs++[R]).getD i ad0).1 ((p.a++[row]).getD i []);rw[gt i hi,getD_app (l:=p.a) hi];split
  ·rename_i hi2;exact(h.ar i hi2).stp k fun b hb=>fx b (.inr (.inr (.inr ⟨i,hi2,hb⟩)))
  ·exact hR.stp k rx
 ·show(m.rs++[R]).length=(p.a++[row]).length;rw[List.length_append,hl,h.rl];rfl
 ·rcases hat with h1|h1
  ·exact(h.nb b hb).2 (h1▸e)
  ·have:=h1 b e;have:=(h.bp.ltBl hb).2;omega
 ·have old:b<w.heap.size∧b≠g∧bl m.a.1≠some b∧bl m.b.1≠some b:=by
   rcases hb with hb|hb|hb|⟨i,hi,hb⟩
   ·exact h.fix b (.inl hb)
   ·exact h.fix b (.inr (.inl hb))
   ·exact h.fix b (.inr (.inr (.inl hb)))
   ·replace hi:i<(p.a++[row]).length:=hi;rw[hl]at hi;replace hb:bl ((m.rs++[R]).getD i ad0).1=some b:=hb;rw[gt i hi]at hb;split at hb
    ·rename_i hi2;exact h.fix b (.inr (.inr (.inr ⟨i,hi2,hb⟩)))
    ·exact hk b hb
  refine⟨Nat.lt_of_lt_of_le old.1 k.size,old.2.1,fun e=> ?_,old.2.2.2⟩;rcases hat with h1|h1
  ·exact old.2.2.1 (h1▸e)
  ·have:=h1 b e;omega
 ·rcases hb with hb|hb|hb|⟨i,hi,hb⟩
  ·exact h.fb b (.inl hb)
  ·exact h.fb b (.inr (.inl hb))
  ·exact h.fb b (.inr (.inr (.inl hb)))
  ·replace hi:i<(p.a++[row]).length:=hi;rw[hl]at hi;replace hb:bl ((m.rs++[R]).getD i ad0).1=some b:=hb;rw[gt i hi]at hb;split at hb
   ·rename_i hi2;exact h.fb b (.inr (.inr (.inr ⟨i,hi2,hb⟩)))
   ·exact hkb b hb
 ·rcases e with rfl|e
  ·exact h.gb
  ·exact(h.ap.ltBl e).1
 ·exact ho.2.1
 ·refine⟨fun e=> ?_,ho.2.2⟩;rcases hat with h1|h1
  ·exact ho.2.1 (h1▸e)
  ·have:=h1 b e;omega
theorem RwAt.pushB {w w4:World}{base g:Nat}{m:Pa}{p:Pg}{A':Option Addr}{c':Nat}{z:Int}(h:RwAt w base g m p)(hr:NRow w4 base tyI6 1 (.slice A' (p.b.length+1) c') (p.b.length+1) (p.b.map iw++[iw z]))(hgr:w.grownBy w4 (bl m.b.1))(hat:bl A'=bl m.b.1∨∀k,bl A'=some k→w.heap.size≤k):RwAt (w4.setCell ⟨g,3,none⟩ (.slice A' (p.b.length+1) c')) base g {m with b:=(A',c')} {p with b:=p.b++[z]}∧∀w0,Below base w0 w→base≤w.heap.size→Below base w0 (w4.setCell ⟨g,3,none⟩ (.slice A' (p.b.length+1) c'))∧Kp g w (w4.setCell ⟨g,3,none⟩ (.slice A' (p.b.length+1) c')) m {m with b:=(A',c')}:=by
 obtain⟨k,kb,hb4⟩:=stp_app (o:=3) (u:= .slice A' (p.b.length+1) c') (fun k hk=>h.bp.boxBl hk) hgr (h.hd.box rfl) (fun b hb=>(h.nb b hb).1) rfl;have hl:(p.b++[z]).length=p.b.length+1:=by rw[List.length_append,List.length_singleton]
 have ng:∀b,bl A'=some b→b≠g:=fun b hb e=>by
  rcases hat with h1|h1
  ·exact(h.nb b (h1▸hb)).1 e
  ·have:=h1 b hb;have:=h.hd.lt;omega
 have fx:∀b,(bl m.lo.1=some b∨bl m.hi.1=some b∨bl m.c.1=some b∨∃i,i<p.a.length∧bl (m.rs.getD i ad0).1=some b)→¬(b=g∨bl m.b.1=some b):=fun b hb e=>by
  have:=h.fix b hb;rcases e with e|e
  ·exact this.2.1 e
  ·exact this.2.2.2 e
 have ax:∀b,bl m.a.1=some b→¬(b=g∨bl m.b.1=some b):=fun b hb e=>by
  rcases e with e|e
  ·exact h.na b hb e
  ·exact(h.nb b e).2 hb
 refine⟨⟨?_,h.gb,h.lo.stp k fun b hb=>fx b (.inl hb),h.hi.stp k fun b hb=>fx b (.inr (.inl hb)),h.c.stp k fun b hb=>fx b (.inr (.inr (.inl hb))),h.ap.stp k ax,?_,fun i hi=>(h.ar i hi).stp k fun b hb=>fx b (.inr (.inr (.inr ⟨i,hi,hb⟩))),h.rl,h.na,fun b hb=>⟨ng b hb,fun e=> ?_⟩,fun b hb=> ?_,h.fb⟩,fun w0 hb hs=>⟨k.below hb hs fun b e=> ?_,k.size,fun b hb2 ho=>⟨k.block b hb2 fun e=>e.elim ho.1 ?_,ho.1,?_⟩⟩⟩
 ·show Blk _ g tyRw #[_,_,_,.slice A' (p.b++[z]).length c',_];rw[hl];exact(kb h.hd).set_ 3 _
 ·show NRow _ base tyI6 1 (.slice A' (p.b++[z]).length c') (p.b++[z]).length ((p.b++[z]).map iw);rw[hl,List.map_append];exact hr.stp (Stp.wrote (S:=fun b=>b=g) hb4 (gSC w4 g 3 _) rfl) ng
 ·rcases hat with h1|h1
  ·exact(h.nb b (h1▸hb)).2 e
  ·have:=h1 b hb;have:=(h.ap.ltBl e).2;omega
 ·have old:=h.fix b hb;refine⟨Nat.lt_of_lt_of_le old.1 k.size,old.2.1,old.2.2.1,fun e=> ?_⟩;rcases hat with h1|h1
  ·exact old.2.2.2 (h1▸e)
  ·have:=h1 b e;omega
 ·rcases e with rfl|e
  ·exact h.gb
  ·exact(h.bp.ltBl e).1
 ·exact ho.2.2
 ·refine⟨ho.2.1,fun e=> ?_⟩;rcases hat with h1|h1
  ·exact ho.2.2 (h1▸e)
  ·have:=h1 b e;omega
theorem RwAt.pgS {w w':World}{base g b:Nat}{m:Pa}{p:Pg}(h:RwAt w base g m p)(k:Stp (fun x=>x=b) w w')(hb:b<base):PgAt w' m p:=by
 have hp:=h.pg;have f:∀k,(bl m.lo.1=some k∨bl m.hi.1=some k∨bl m.c.1=some k∨∃i,i<p.a.length∧bl (m.rs.getD i ad0).1=some k)→¬k=b:=fun k hk e=>by
  have:=h.fb k hk;omega
 exact⟨hp.lo.stp k fun x e=>f x (.inl e),hp.hi.stp k fun x e=>f x (.inr (.inl e)),hp.b.stp k fun x e e2=>by have:=(h.bp.ltBl e).1;omega,hp.c.stp k fun x e=>f x (.inr (.inr (.inl e))),hp.ap.stp k fun x e e2=>by have:=(h.ap.ltBl e).1;omega,fun i hi=>(hp.ar i hi).stp k fun x e=>f x (.inr (.inr (.inr ⟨i,hi,e⟩)))⟩
theorem info_i6:(Tryz.prog.info? 2).map (fun i=>(i.zero,i.size,i.bytes))=some (some (.int .i64 0),1,8):=by kernel_rfl
theorem info_is:(Tryz.prog.info? 28).map (fun i=>(i.zero,i.size,i.bytes))=some (some (.slice none 0 0),1,24):=by kernel_rfl
abbrev iwC (l:List Int):Array Value:=(l.map iw).toArray
theorem wp_make64 {ops:Array Oper}{rest:List Oper}{o:Oper}{a:Act}{Q:Exit→Act→World→Prop}(l c:Operand)(w:World)(n:Nat){C D:Int}(hC:C=(n:Int))(hD:D=(n:Int))(hn:n≤1000000)(hgd:o.guard=none)(ho:o.op=Op.makeSlice 28 l c)(hl:a.eval l= .int .i64 D)(hc:a.eval c= .int .i64 C)(K:∀w',Blk w' w.heap.size tyI6 (iwC (List.replicate n 0))→Below w.heap.size w w'→wpList Tryz.prog ops Q rest (a.put o.dst (.slice (some ⟨w.heap.size,0,none⟩) n n)) w'):wpList Tryz.prog ops Q (o::rest) a w:=by
 obtain⟨i0,hi,hz0,hz1,hz2⟩:=info_parts info_i6;refine wpList_make_full _ hgd l c 28 ho w.heap.size 2 i0 (.int .i64 0) 1 Tryz.underlying28 hi hz0 hz1 .i64 .i64 D C n hl hc hD hC (by rw[hz2];omega) (by unfold maxLen;omega) ZL ?_;intro w' h1 h2;refine K w' ?_ ((Below.refl _ _).grown h2 ZL (by intro k hk;cases hk));rcases h1.2 with ⟨hv,_⟩|⟨g,cap,cur,hv,_,hg,_,_,hs,ht⟩
 ·cases hv
 ·have hg1:g=w.heap.size∧cap=n:=by
   injection hv with hv _ hcap;injection hv with hv;injection hv with hv;exact⟨hv.symm,hcap.symm⟩
  obtain⟨rfl,rfl⟩:=hg1;rw[Nat.mul_one]at hs ht;have e:(Value.int .i64 0).cells= #[Value.int .i64 0]:=rfl;rw[e,toList_madeCells_one,List.take_of_length_le (by simp;omega)]at ht;have hcur:cur=iwC (List.replicate cap 0):=by
   have h3:cur=cur.toList.toArray:=by simp
   rw[h3,ht];unfold iwC;rw[List.map_replicate]
  subst hcur;exact hg
theorem iwC_set {l:List Int}{j:Nat}{z:Int}:(iwC l).setIfInBounds j (iw z)=iwC (l.set j z):=by
 show((l.map iw).toArray).setIfInBounds j (iw z)=((l.set j z).map iw).toArray;rw[List.map_set,zD]
theorem iwC_cell {w:World}{g:Nat}{l:List Int}(h:Blk w g tyI6 (iwC l)){j:Nat}(hj:j<l.length):w.cell? ⟨g,j,none⟩=some (iw (l.getD j 0)):=by
 refine(h.cell j).trans ?_;show((l.map iw).toArray)[j]? =_;rw[List.getElem?_toArray,List.getElem?_map,gG hj,gE,gG hj];rfl
theorem iwC_row {w:World}{g:Nat}{l:List Int}(h:Blk w g tyI6 (iwC l)):IRow w (some ⟨g,0,none⟩) l:=fun j hj=>⟨g,0,rfl,by rw[Nat.zero_add];exact iwC_cell h hj⟩
end Go.Proofs.YtecfcjdgmpopjaaGreat

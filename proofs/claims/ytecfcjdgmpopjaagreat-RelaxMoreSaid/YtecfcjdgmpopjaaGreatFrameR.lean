/-
  Joined texts: Hs, Ia, FrameR.
-/
import Derived.Test.YtecfcjdgmpopjaaGreatGu
import Derived.Test.YtecfcjdgmpopjaaGreatGv
import Derived.Deep.CutBlock
import Derived.BigQuiet
import Derived.Test.YtecfcjdgmpopjaaGreatFrameP
set_option linter.unusedSimpArgs false
set_option linter.unusedVariables false
namespace Go.Proofs.YtecfcjdgmpopjaaGreat
open Go.RowKit Num
set_option maxHeartbeats 4000000
set_option maxRecDepth 100000
def Caps (ds:List Adr)(d:List (List (Int×Int))):Prop:=∀i,i<d.length→(d.getD i []).length≤(ds.getD i ad0).2
def DomsC (W:World)(A:Option Addr)(ds:List Adr)(d:List (List (Int×Int))):Prop:=DsAt W A ds d∧Caps ds d
def shortD (d:List (List (Int×Int))):Bool:=d.all fun l=>decide (l.length≤400)
def shortC (l:List Cn):Bool:=l.all fun c=>decide (c.x.length≤200)&&decide (c.a.length≤200)
def smallM (m:Md):Bool:=decide (m.doms.length≤200)&&(decide (m.cons.length≤200)&&(shortD m.doms&&shortC m.cons))
theorem shortD_step (l:List (Int×Int))(d:List (List (Int×Int))):shortD (l::d)=(decide (l.length≤400)&&shortD d):=rfl
theorem shortC_step (c:Cn)(l:List Cn):shortC (c::l)=((decide (c.x.length≤200)&&decide (c.a.length≤200))&&shortC l):=rfl
theorem msmall_sz {m:Md}(h:smallM m=true):MdSz m:=by
 unfold smallM at h;simp only[Bool.and_eq_true,decide_eq_true_eq]at h;obtain⟨h1,h2,h3,h4⟩:=h;refine⟨by omega,by omega,fun d hd=> ?_,fun c hc=> ?_⟩
 ·have:=List.all_eq_true.1 h3 d hd;rw[decide_eq_true_eq]at this;omega
 ·have:=List.all_eq_true.1 h4 c hc;rw[Bool.and_eq_true,decide_eq_true_eq,decide_eq_true_eq]at this;omega
theorem info_conS:(Tryz.prog.info? 69).map (·.size)=some 4:=by kernel_rfl
theorem msmall_any {w:World}{a:Mp}{m:Md}(h:MdAt w a m):Calls Tryz.prog 28 #[.agg (mdC a m)] w fun e w'=>e= .returned (.bool (smallM m))∧Below w.heap.size w w':=by
 have HA:=ZH h;obtain⟨R,hR⟩:∃R,smallM m=R:=⟨_,rfl⟩;have HE:Hid (R=smallM m):=hR.symm;rw[hR];unfold smallM at HE;have M:=(Mem.start w).new 25 (mdC a m);obtain⟨m0,m1,m2,m3⟩:=(M.k (i:=0) rfl).four;have HM:=ZH M;clear hR h M;go_enter Tryz.func28,Tryz.ntmps28;by_cases g1:m.doms.length≤200
 ·have d1:decide ((200:Int)<(m.doms.length:Int))=false:=dF (by omega);rw[dT g1,Bool.true_and]at HE;by_cases g2:m.cons.length≤200
  ·have d2:decide ((200:Int)<(m.cons.length:Int))=false:=dF (by omega);rw[dT g2,Bool.true_and]at HE;have HE0:Hid (R=(shortD (m.doms.drop 0)&&shortC m.cons)):=HE.out;clear HE;go_upto_block 0 with fail;go_wp2_with fail;go_loopg [20] m.doms.length (fun k pp wr=>∃i,k=m.doms.length-i∧i≤m.doms.length∧pp= .int .i64 (i:Nat)∧Hid (R=(shortD (m.doms.drop i)&&shortC m.cons))∧Hid (Mem w wr [(w.heap.size,25,mdC a m)] []))
   case atStart=>exact⟨0,rfl,Nat.zero_le _,rfl,HE0.out,HM.out⟩
   case round=>
    clear HE0 HM m0 m1 m2 m3 d1 d2;obtain⟨i,hk,hi,rfl,HL,HM⟩:=hrel;obtain⟨m0,m1,m2,m3⟩:=(HM.out.k (i:=0) rfl).four;by_cases hlt:i<m.doms.length
    ·have d1:decide ((i:Int)<(m.doms.length:Int))=true:=dT (by omega);obtain⟨ga,oa,hA2,ci⟩:=(HA.out.ds.below HM.out.bel).ap i hlt;replace ci:wr.cell? ⟨ga,oa+i,none⟩=some (.slice (a.ds.getD i ad0).1 (m.doms.getD i []).length (a.ds.getD i ad0).2):=ci;have HAA:=ZH hA2;rw[hA2]at m0⊢;have HC:Hid (R=(decide ((m.doms.getD i []).length≤400)&&(shortD (m.doms.drop (i+1))&&shortC m.cons))):=by
      show _=_;rw[HL.out,drop_at (z:=[]) hlt,shortD_step,Bool.and_assoc]
     clear HL hA2;generalize m.doms.getD i []=row at*;generalize (a.ds.getD i ad0).1=RA at*;generalize (a.ds.getD i ad0).2=cR at*;by_cases hrl:row.length≤400
     ·have d2:decide ((400:Int)<(row.length:Int))=false:=dF (by omega);have HC2:Hid (R=(shortD (m.doms.drop (i+1))&&shortC m.cons)):=HC.out.trans (by rw[dT hrl,Bool.true_and]);clear HC;go_wp2_with fail;rw[←HAA.out];go_roundg (m.doms.length-(i+1))
      case measure=>omega
      case rel=>exact⟨i+1,rfl,by omega,by simp,HC2.out,HM.out⟩
     ·have d2:decide ((400:Int)<(row.length:Int))=true:=dT (by omega);have HC2:Hid (R=false):=HC.out.trans (by rw[dF hrl];rfl);clear HC;rename Hid (R=false)=>HC;go_wp2_with fail;exact bodyPost_ret (v:= .bool false) (by simp[results,Tryz.results28,go_sem]) rfl ⟨by rw[HC.out],HM.out.bel⟩
    ·have d1:decide ((i:Int)<(m.doms.length:Int))=false:=dF (by omega);have HE:Hid (R=shortC (m.cons.drop 0)):=by
      show _=_;rw[HL.out,drop_none hlt];rfl
     clear HL;go_wp2_with fail;have HMI:=ZH HM.out;go_loopg [31] m.cons.length (fun k pp wr=>∃i,k=m.cons.length-i∧i≤m.cons.length∧pp= .int .i64 (i:Nat)∧Hid (R=shortC (m.cons.drop i))∧Hid (Mem w wr [(w.heap.size,25,mdC a m)] []))
     case atStart=>exact⟨0,rfl,Nat.zero_le _,rfl,HE.out,HMI.out⟩
     case round=>
      clear HE HM HMI m0 m1 m2 m3 d1;obtain⟨j,hk2,hj,rfl,HL,HM⟩:=hrel;by_cases hlt2:j<m.cons.length
      ·have d1:decide ((j:Int)<(m.cons.length:Int))=true:=dT (by omega);obtain⟨gc,oc,hca,e0,e1,e2,e3⟩:=(HA.out.cs.below HM.out.bel).at hlt2;have HCA:=ZH hca;rw[hca];have HC:Hid (R=((decide ((m.cons.getD j cn0).x.length≤200)&&decide ((m.cons.getD j cn0).a.length≤200))&&shortC (m.cons.drop (j+1)))):=by
        show _=_;rw[HL.out,drop_at (z:=cn0) hlt2,shortC_step]
       clear HL hca;generalize m.cons.getD j cn0=cc at*;generalize a.xs.getD j ad0=xa at*;generalize a.as_.getD j ad0=aa at*;obtain⟨ck,cx,ca,cc⟩:=cc;replace HC:Hid (R=((decide (cx.length≤200)&&decide (ca.length≤200))&&shortC (m.cons.drop (j+1)))):=HC;have M2:=HM.out.new 69 #[.int .i64 0,.slice none 0 0,.slice none 0 0,.int .i64 0];have hgw:=(HM.out.k (i:=0) rfl).lt;go_upto_region 12 with ((with_reducible refine st_ ?_);refine wP2 _ _ (M2.k (i:=0) rfl) rfl rfl rfl rfl info_conS rfl rfl ?_;intro w5 b5 g5';replace M2:=M2.row (by omega) (by simp;omega) rfl b5 g5');obtain⟨f1,f2,f3,f4⟩:=(M2.k (i:=0) rfl).four;have HM2:=ZH (M2.sub (Ks':=[(w.heap.size,25,mdC a m)]) (Rs':=[]) (by simp) (by simp));clear b5 g5' e0 e1 e2 e3 M2 HM;by_cases h1:cx.length≤200
       ·have d2:decide ((200:Int)<(cx.length:Int))=false:=dF (by omega);by_cases h2:ca.length≤200
        ·have d3:decide ((200:Int)<(ca.length:Int))=false:=dF (by omega);have HC2:Hid (R=shortC (m.cons.drop (j+1))):=HC.out.trans (by rw[dT h1,dT h2];rfl);clear HC;go_wp2_with fail;rw[←HCA.out];go_roundg (m.cons.length-(j+1))
         case measure=>omega
         case rel=>exact⟨j+1,rfl,by omega,by simp,HC2.out,HM2.out⟩
        ·have d3:decide ((200:Int)<(ca.length:Int))=true:=dT (by omega);have HC2:Hid (R=false):=HC.out.trans (by rw[dF h2,Bool.and_false];rfl);clear HC;rename Hid (R=false)=>HC;rename Hid (Mem w w5 _ _)=>HM;go_wp2_with fail;exact bodyPost_ret (v:= .bool false) (by simp[results,Tryz.results28,go_sem]) rfl ⟨by rw[HC.out],HM.out.bel⟩
       ·have d2:decide ((200:Int)<(cx.length:Int))=true:=dT (by omega);have HC2:Hid (R=false):=HC.out.trans (by rw[dF h1];rfl);clear HC;rename Hid (R=false)=>HC;rename Hid (Mem w w5 _ _)=>HM;go_wp2_with fail;exact bodyPost_ret (v:= .bool false) (by simp[results,Tryz.results28,go_sem]) rfl ⟨by rw[HC.out],HM.out.bel⟩
      ·have d1:decide ((j:Int)<(m.cons.length:Int))=false:=dF (by omega);have HC:Hid (R=true):=by
        show _=_;rw[HL.out,drop_none hlt2];rfl
       clear HL;go_wp2_with fail;exact bodyPost_ret (v:= .bool true) (by simp[results,Tryz.results28,go_sem]) rfl ⟨by rw[HC.out],HM.out.bel⟩
  ·have d2:decide ((200:Int)<(m.cons.length:Int))=true:=dT (by omega);rw[dF g2]at HE;have HC:Hid (R=false):=HE.out;clear HE;go_wp2_with fail;exact bodyPost_ret (v:= .bool false) (by simp[results,Tryz.results28,go_sem]) rfl ⟨by rw[HC.out],HM.out.bel⟩
 ·have d1:decide ((200:Int)<(m.doms.length:Int))=true:=dT (by omega);rw[dF g1]at HE;have HC:Hid (R=false):=HE.out;clear HE;go_wp2_with fail;exact bodyPost_ret (v:= .bool false) (by simp[results,Tryz.results28,go_sem]) rfl ⟨by rw[HC.out],HM.out.bel⟩
theorem mfits_any {w:World}{a:Mp}{m:Md}{D:Option Addr}{Dc:Nat}{ds:List Adr}{d:List (List (Int×Int))}(h:MdAt w a m)(hd:DsAt w D ds d):Calls Tryz.prog 9 #[.agg (mdC a m),.slice D d.length Dc] w fun e w'=>e= .returned (.bool (smallM m&&smallM {m with doms:=d}))∧Below w.heap.size w w':=by
 have HS1:=ZH fun(w':World)(q:Below w.heap.size w w')=>msmall_any (h.below q);have HS2:Hid (∀w',Below w.heap.size w w'→Calls Tryz.prog 28 #[.agg #[.slice D d.length Dc,.slice a.cons.1 m.cons.length a.cons.2,iw m.ask,iw m.goal]] w' fun e w2=>e= .returned (.bool (smallM {m with doms:=d}))∧Below w'.heap.size w' w2):=fun w' q=>
  msmall_any (a:={a with doms:=(D,Dc),ds:=ds}) (m:={m with doms:=d}) ⟨hd.below q,h.cs.below q⟩
 have M:=(Mem.start w).new 25 (mdC a m);obtain⟨m0,m1,m2,m3⟩:=(M.k (i:=0) rfl).four;obtain⟨R2,hR2⟩:∃R,smallM {m with doms:=d}=R:=⟨_,rfl⟩;rw[hR2]at HS2⊢;obtain⟨R1,hR1⟩:∃R,smallM m=R:=⟨_,rfl⟩;rw[hR1]at HS1⊢;have HM:=ZH M;clear h hd hR1 hR2 M;go_enter Tryz.func9,Tryz.ntmps9;go_upto_region 3 with fail;have M2:=HM.out.newAt (g:=w.heap.size+1) (by simp) 25 #[.slice D d.length Dc,.slice a.cons.1 m.cons.length a.cons.2,iw m.ask,iw m.goal];clear m0 m1 m2 m3;obtain⟨m0,m1,m2,m3⟩:=(M2.k (i:=1) rfl).four;go_wp2_with fail;refine(HS1.out _ M2.bel).mono ?_;rintro e w2 ⟨rfl,q2⟩;replace M2:=M2.below q2;clear q2 m0 m1 m2 m3;cases R1 with
 |false=>
  have HM2:=ZH M2;go_wp2_with fail;exact bodyPost_ret (v:= .bool false) (by simp[results,Tryz.results9,go_sem]) rfl ⟨rfl,HM2.out.bel⟩
 |true=>
  obtain⟨m0,m1,m2,m3⟩:=(M2.k (i:=0) rfl).four;go_wp2_with fail;refine(HS2.out _ M2.bel).mono ?_;rintro e w3 ⟨rfl,q3⟩;have HM3:=ZH (M2.below q3);clear q3 m0 m1 m2 m3 M2;go_wp2_with fail;exact bodyPost_ret (v:= .bool R2) (by simp[results,Tryz.results9,go_sem]) rfl ⟨by rw[Bool.true_and],HM3.out.bel⟩
theorem nums_any {w:World}{A B:Option Addr}{c d n:Nat}{l:List Int}(h:IRow w A l)(k:IRow w B l)(hn:l.length=n)(hs:n≤1000000):Calls Tryz.prog 12 #[.slice A n c,.slice B n d] w fun e w'=>e= .returned (.bool true)∧Below w.heap.size w w':=by
 have HA:=ZH h;have HB:=ZH k;have HN:=ZH hn;have d0:((n:Int) !=(n:Int))=false:=by simp
 clear h k hn;go_enter Tryz.func12,Tryz.ntmps12;go_wp2_with fail;go_loopg [13] n (fun k pp wr=>∃i,k=n-i∧i≤n∧pp= .int .i64 (i:Nat)∧Hid (Below w.heap.size w wr))
 case atStart=>exact⟨0,rfl,Nat.zero_le _,rfl,Below.refl _ _⟩
 case round=>
  obtain⟨i,hk,hi,rfl,HQ⟩:=hrel;by_cases hlt:i<n
  ·have d1:decide ((i:Int)<(n:Int))=true:=dT (by omega);obtain⟨ga,oa,hA,ca⟩:=(HA.out.below HQ.out) i (by rw[HN.out];exact hlt);obtain⟨gb,ob,hB,cb⟩:=(HB.out.below HQ.out) i (by rw[HN.out];exact hlt);replace ca:wr.cell? ⟨ga,oa+i,none⟩=some (.int .i64 (l.getD i 0)):=ca;replace cb:wr.cell? ⟨gb,ob+i,none⟩=some (.int .i64 (l.getD i 0)):=cb;have HXA:=ZH hA;have HXB:=ZH hB;rw[hA,hB];generalize l.getD i 0=z at*;have d2:(z !=z)=false:=by simp
   clear hA hB;go_upto_region 6 with fail;go_quiet (fail);have HQN:=ZH (below_dr HQ.out nq);clear ca cb;go_wp2_with fail;rw[←HXA.out,←HXB.out];go_roundg (n-(i+1))
   case measure=>omega
   case rel=>exact⟨i+1,rfl,by omega,by simp,HQN.out⟩
  ·have d1:decide ((i:Int)<(n:Int))=false:=dF (by omega);go_wp2_with fail;exact bodyPost_ret (v:= .bool true) (by simp[results,Tryz.results12,go_sem]) rfl ⟨rfl,HQ.out⟩
theorem ranges_any {w:World}{A B:Option Addr}{c d n:Nat}{l:List (Int×Int)}(h:RRow w A l)(k:RRow w B l)(hn:l.length=n)(hs:n≤1000000):Calls Tryz.prog 27 #[.slice A n c,.slice B n d] w fun e w'=>e= .returned (.bool true)∧Below w.heap.size w w':=by
 have HA:=ZH h;have HB:=ZH k;have HN:=ZH hn;have d0:((n:Int) !=(n:Int))=false:=by simp
 clear h k hn;go_enter Tryz.func27,Tryz.ntmps27;go_wp2_with fail;go_loopg [13] n (fun k pp wr=>∃i,k=n-i∧i≤n∧pp= .int .i64 (i:Nat)∧Hid (Below w.heap.size w wr))
 case atStart=>exact⟨0,rfl,Nat.zero_le _,rfl,Below.refl _ _⟩
 case round=>
  obtain⟨i,hk,hi,rfl,HQ⟩:=hrel;by_cases hlt:i<n
  ·have d1:decide ((i:Int)<(n:Int))=true:=dT (by omega);obtain⟨ga,oa,hA,ca,ca2⟩:=(HA.out.below HQ.out).at (j:=i) (by rw[HN.out];exact hlt);obtain⟨gb,ob,hB,cb,cb2⟩:=(HB.out.below HQ.out).at (j:=i) (by rw[HN.out];exact hlt);have HXA:=ZH hA;have HXB:=ZH hB;rw[hA,hB];generalize (l.getD i (0,0)).1=z at*;generalize (l.getD i (0,0)).2=y at*;have d2:(z !=z)=false:=by simp
   have d3:(y !=y)=false:=by simp
   clear hA hB;go_upto_region 6 with fail;go_quiet (fail);have HQN:=ZH (below_dr HQ.out nq);clear ca cb ca2 cb2;go_wp2_with fail;rw[←HXA.out,←HXB.out];go_roundg (n-(i+1))
   case measure=>omega
   case rel=>exact⟨i+1,rfl,by omega,by simp,HQN.out⟩
  ·have d1:decide ((i:Int)<(n:Int))=false:=dF (by omega);go_wp2_with fail;exact bodyPost_ret (v:= .bool true) (by simp[results,Tryz.results27,go_sem]) rfl ⟨rfl,HQ.out⟩
open Go.ChangeShapes Go.WideShapes Go.ChangeAt Go.RowKit Go.Joins Go.Deep Num
theorem trod_struct4 {H:Type}{enc:TypeId×Value→H}{P:Program}{w:World}{base:Nat}{spare:Nat→Bool}{held:Bool}{t:TypeId}{f0 f1 f2 f3:Field}{fuel:Nat}{cs:List Value}{x:DataW H×List MemPlace}(ht:P.underlying t=some (.struct #[f0,f1,f2,f3]))(h:DataW.trod enc P w base spare held fuel t cs=some x):∃y0 y1 y2 y3 n,DataW.trod enc P w base spare held n f0.type ((cs.drop f0.offset).take (P.cellsOf f0.type))=some y0∧DataW.trod enc P w base spare held n f1.type ((cs.drop f1.offset).take (P.cellsOf f1.type))=some y1∧DataW.trod enc P w base spare held n f2.type ((cs.drop f2.offset).take (P.cellsOf f2.type))=some y2∧DataW.trod enc P w base spare held n f3.type ((cs.drop f3.offset).take (P.cellsOf f3.type))=some y3:=by
 obtain⟨xs,n,_,rfl,hl,hlen,hf⟩:=DataW.trod_struct ht h;match xs,hlen with
 |[y0,y1,y2,y3],_=>exact⟨y0,y1,y2,y3,n,by simpa using hf 0 f0 rfl,by simpa using hf 1 f1 rfl,by simpa using hf 2 f2 rfl,by simpa using hf 3 f3 rfl⟩
theorem open_rowC {H:Type}{enc:TypeId×Value→H}{W:World}{α:Type}(Q:List Value→α→Prop)(d:α){t e:TypeId}{sz:Nat}(ht:Tryz.prog.underlying t=some (.slice e))(hsz:Tryz.prog.cellsOf e=sz)(hpos:0<sz)(hel:∀(n:Nat)(cs:List Value)(y:DataW H×List MemPlace),DataW.trod enc Tryz.prog W 0 (fun _=>true) true n e cs=some y→cs.length=sz→∃a:α,Q cs a){fuel:Nat}{cs:List Value}{x:DataW H×List MemPlace}(h:DataW.trod enc Tryz.prog W 0 (fun _=>true) true fuel t cs=some x):∃(A:Option Addr)(l:List α)(c:Nat),cs=[.slice A l.length c]∧l.length≤c∧∀j,j<l.length→∃g o,A=some ⟨g,o,none⟩∧∃cs',(∀k,k<sz→W.cell? ⟨g,o+j*sz+k,none⟩=cs'[k]?)∧cs'.length=sz∧Q cs' (l.getD j d):=by
 obtain⟨A,l,c,h1,h2⟩:=open_row Q d ht hsz hpos hel h;refine⟨A,l,c,h1,?_,h2⟩;rcases open_slice ht h with ⟨hcs,_⟩|⟨a,len,cap,m,n,D,Pl,hcs,_,hl,_,_,_,_⟩
 ·rw[h1]at hcs;simp only[List.cons.injEq,Value.slice.injEq,and_true]at hcs;omega
 ·rw[h1]at hcs;simp only[List.cons.injEq,Value.slice.injEq,and_true]at hcs;omega
theorem open_is {H:Type}{enc:TypeId×Value→H}{W:World}{fuel:Nat}{cs:List Value}{x:DataW H×List MemPlace}(h:DataW.trod enc Tryz.prog W 0 (fun _=>true) true fuel 67 cs=some x):∃(A:Option Addr)(l:List Int)(c:Nat),cs=[.slice A l.length c]∧IRow W A l:=by
 obtain⟨A,l,c,h1,h2⟩:=open_row (α:=Int) IsInt 0 Tryz.underlying67 (sz:=1) (by kernel_rfl) (by decide) (fun n cs y ht hl=>by
  obtain⟨i0,q0,_,w0⟩:=DataW.trod_int Tryz.underlying3 ht;simp only[Lit.wf,Bool.and_eq_true,decide_eq_true_eq]at w0;exact⟨i0,q0,w0.1,w0.2⟩) h
 refine⟨A,l,c,h1,fun j hj=> ?_⟩;obtain⟨g,o,hA,cs',h3,h4,h5,_⟩:=h2 j hj;refine⟨g,o,hA,?_⟩;have:=h3 0 (by decide);rw[h5]at this;rw[Nat.mul_one,Nat.add_zero]at this;exact this
def IsRg (cs:List Value)(r:Int×Int):Prop:=cs=[.int .i64 r.1,.int .i64 r.2]
theorem open_rg {H:Type}{enc:TypeId×Value→H}{W:World}(n:Nat)(cs:List Value)(y:DataW H×List MemPlace)(h:DataW.trod enc Tryz.prog W 0 (fun _=>true) true n 65 cs=some y)(hl:cs.length=2):∃r:Int×Int,IsRg cs r:=by
 match cs,hl with
 |[c0,c1],_=>
  obtain⟨y0,y1,k,_,_,h0,h1⟩:=trod_struct2 Tryz.underlying65 h;have e0:Tryz.prog.cellsOf 2=1:=by kernel_rfl
  simp only[e0]at h0 h1;replace h0:DataW.trod enc Tryz.prog W 0 (fun _=>true) true k 2 [c0]=some y0:=h0;replace h1:DataW.trod enc Tryz.prog W 0 (fun _=>true) true k 2 [c1]=some y1:=h1;obtain⟨i0,q0,_,_⟩:=DataW.trod_int Tryz.underlying2 h0;obtain⟨i1,q1,_,_⟩:=DataW.trod_int Tryz.underlying2 h1;obtain rfl:c0= .int .i64 i0:=by simpa using q0
  obtain rfl:c1= .int .i64 i1:=by simpa using q1
  exact⟨(i0,i1),rfl⟩
structure Dm where
 l:List (Int×Int)
 A:Option Addr
 c:Nat
def dm0:Dm:=⟨[],none,0⟩
def IsDm (W:World)(cs:List Value)(x:Dm):Prop:=cs=[.slice x.A x.l.length x.c]∧RRow W x.A x.l∧x.l.length≤x.c
theorem open_dm {H:Type}{enc:TypeId×Value→H}{W:World}(n:Nat)(cs:List Value)(y:DataW H×List MemPlace)(h:DataW.trod enc Tryz.prog W 0 (fun _=>true) true n 66 cs=some y)(hl:cs.length=1):∃x:Dm,IsDm W cs x:=by
 obtain⟨A,l,c,h1,h2,h3⟩:=open_rowC IsRg (0,0) Tryz.underlying66 (sz:=2) (by kernel_rfl) (by decide) open_rg h;refine⟨⟨l,A,c⟩,h1,fun i hi=> ?_,h2⟩;obtain⟨g,o,hA,cs',h4,h5,h6⟩:=h3 (i/2) (by show i/2<l.length;replace hi:i<l.length*2:=hi;omega);refine⟨g,o,hA,?_⟩;have h7:=h4 (i%2) (by omega);have e:o+i/2*2+i%2=o+i:=by omega
 rw[e,h6]at h7;refine h7.trans ?_;show _=some (if i%2=0 then iw (l.getD (i/2) (0,0)).1 else iw (l.getD (i/2) (0,0)).2);rcases Nat.mod_two_eq_zero_or_one i with e|e<;>rw[e]<;>rfl
theorem doms_of {W:World}{A:Option Addr}{l:List Dm}(h:∀j,j<l.length→∃g o,A=some ⟨g,o,none⟩∧∃cs',(∀k,k<1→W.cell? ⟨g,o+j*1+k,none⟩=cs'[k]?)∧cs'.length=1∧IsDm W cs' (l.getD j dm0)):DomsC W A (l.map fun x=>(x.A,x.c)) (l.map (·.l)):=by
 have hrow:∀i,i<l.length→(l.map (·.l)).getD i []=(l.getD i dm0).l∧(l.map fun x=>(x.A,x.c)).getD i ad0=((l.getD i dm0).A,(l.getD i dm0).c):=fun i hi=>by
  constructor
  ·rw[gE,List.getElem?_map,gE,gG hi];rfl
  ·rw[gE,List.getElem?_map,gE,gG hi];rfl
 have hlen:(l.map (·.l)).length=l.length:=List.length_map ..;refine⟨⟨fun i hi=> ?_,fun i hi=> ?_⟩,fun i hi=> ?_⟩
 ·rw[hlen]at hi;obtain⟨g,o,hA,cs',h4,_,h5,_⟩:=h i hi;refine⟨g,o,hA,?_⟩;have h7:=h4 0 (by decide);rw[h5,Nat.mul_one,Nat.add_zero]at h7;show _=some (Value.slice ((l.map fun x=>(x.A,x.c)).getD i ad0).1 ((l.map (·.l)).getD i []).length ((l.map fun x=>(x.A,x.c)).getD i ad0).2);rw[h7,(hrow i hi).1,(hrow i hi).2];rfl
 ·rw[hlen]at hi;obtain⟨g,o,hA,cs',_,_,_,h5,_⟩:=h i hi;rw[(hrow i hi).1,(hrow i hi).2];exact h5
 ·rw[hlen]at hi;obtain⟨g,o,hA,cs',_,_,_,_,h5⟩:=h i hi;rw[(hrow i hi).1,(hrow i hi).2];exact h5
theorem open_dms {H:Type}{enc:TypeId×Value→H}{W:World}{fuel:Nat}{cs:List Value}{x:DataW H×List MemPlace}(h:DataW.trod enc Tryz.prog W 0 (fun _=>true) true fuel 22 cs=some x):∃(A:Option Addr)(ds:List Adr)(d:List (List (Int×Int)))(c:Nat),cs=[.slice A d.length c]∧DomsC W A ds d:=by
 obtain⟨A,l,c,h1,h2⟩:=open_row (IsDm W) dm0 Tryz.underlying22 (sz:=1) (by kernel_rfl) (by decide) open_dm h;exact⟨A,_,_,c,by rw[List.length_map];exact h1,doms_of h2⟩
structure Cx where
 c:Cn
 x:Adr
 a:Adr
def cx0:Cx:=⟨cn0,ad0,ad0⟩
def IsCx (W:World)(cs:List Value)(y:Cx):Prop:=cs=[iw y.c.k,.slice y.x.1 y.c.x.length y.x.2,.slice y.a.1 y.c.a.length y.a.2,iw y.c.c]∧IRow W y.x.1 y.c.x∧IRow W y.a.1 y.c.a
theorem open_cx {H:Type}{enc:TypeId×Value→H}{W:World}(n:Nat)(cs:List Value)(y:DataW H×List MemPlace)(h:DataW.trod enc Tryz.prog W 0 (fun _=>true) true n 69 cs=some y)(hl:cs.length=4):∃x:Cx,IsCx W cs x:=by
 match cs,hl with
 |[c0,c1,c2,c3],_=>
  obtain⟨y0,y1,y2,y3,k,h0,h1,h2,h3⟩:=trod_struct4 Tryz.underlying69 h;have e0:Tryz.prog.cellsOf 3=1:=by kernel_rfl
  have e1:Tryz.prog.cellsOf 67=1:=by kernel_rfl
  have e2:Tryz.prog.cellsOf 28=1:=by kernel_rfl
  have e3:Tryz.prog.cellsOf 2=1:=by kernel_rfl
  simp only[e0,e1,e2,e3]at h0 h1 h2 h3;replace h0:DataW.trod enc Tryz.prog W 0 (fun _=>true) true k 3 [c0]=some y0:=h0;replace h1:DataW.trod enc Tryz.prog W 0 (fun _=>true) true k 67 [c1]=some y1:=h1;replace h2:DataW.trod enc Tryz.prog W 0 (fun _=>true) true k 28 [c2]=some y2:=h2;replace h3:DataW.trod enc Tryz.prog W 0 (fun _=>true) true k 2 [c3]=some y3:=h3;obtain⟨i0,q0,_,_⟩:=DataW.trod_int Tryz.underlying3 h0;obtain⟨i3,q3,_,_⟩:=DataW.trod_int Tryz.underlying2 h3;obtain⟨A1,l1,d1,q1,r1⟩:=open_is h1;obtain⟨A2,l2,d2,q2,r2,_⟩:=open_i64s h2;obtain rfl:c0= .int .i64 i0:=by simpa using q0
  obtain rfl:c1= .slice A1 l1.length d1:=by simpa using q1
  obtain rfl:c2= .slice A2 l2.length d2:=by simpa using q2
  obtain rfl:c3= .int .i64 i3:=by simpa using q3
  exact⟨⟨⟨i0,l1,l2,i3⟩,(A1,d1),(A2,d2)⟩,rfl,r1,r2⟩
theorem cons_of {W:World}{A:Option Addr}{l:List Cx}(h:∀j,j<l.length→∃g o,A=some ⟨g,o,none⟩∧∃cs',(∀k,k<4→W.cell? ⟨g,o+j*4+k,none⟩=cs'[k]?)∧cs'.length=4∧IsCx W cs' (l.getD j cx0)):CsAt W A (l.map (·.x)) (l.map (·.a)) (l.map (·.c)):=by
 have hrow:∀i,i<l.length→(l.map (·.c)).getD i cn0=(l.getD i cx0).c∧(l.map (·.x)).getD i ad0=(l.getD i cx0).x∧(l.map (·.a)).getD i ad0=(l.getD i cx0).a:=fun i hi=>by
  refine⟨?_,?_,?_⟩
  ·rw[gE,List.getElem?_map,gE,gG hi];rfl
  ·rw[gE,List.getElem?_map,gE,gG hi];rfl
  ·rw[gE,List.getElem?_map,gE,gG hi];rfl
 have hlen:(l.map (·.c)).length=l.length:=List.length_map ..;refine⟨fun i hi=> ?_,fun i hi=> ?_⟩
 ·rw[hlen]at hi;have hi4:i/4<l.length:=by omega
  obtain⟨g,o,hA,cs',h4,_,h5,_⟩:=h (i/4) hi4;refine⟨g,o,hA,?_⟩;have h7:=h4 (i%4) (by omega);have e:o+i/4*4+i%4=o+i:=by omega
  rw[e,h5]at h7;show _=some (cnCell ((l.map (·.x)).getD (i/4) ad0) ((l.map (·.a)).getD (i/4) ad0) ((l.map (·.c)).getD (i/4) cn0) (i%4));rw[h7,(hrow _ hi4).1,(hrow _ hi4).2.1,(hrow _ hi4).2.2];have hm:i%4=0∨i%4=1∨i%4=2∨i%4=3:=by omega
  rcases hm with e|e|e|e<;>rw[e]<;>rfl
 ·rw[hlen]at hi;obtain⟨g,o,hA,cs',_,_,_,h5,h6⟩:=h i hi;rw[(hrow i hi).1,(hrow i hi).2.1,(hrow i hi).2.2];exact⟨h5,h6⟩
theorem open_model {H:Type}{enc:TypeId×Value→H}{W:World}{base:Nat}{v:Value}{d:DataW H}{p:List MemPlace}(hv:Value.okWide Tryz.prog W .any base 25 v)(h:DataW.Trod enc Tryz.prog W 0 (fun _=>true) true 25 v d p):∃(a:Mp)(m:Md),v= .agg (mdC a m)∧MdAt W a m∧∀i,i<m.doms.length→(m.doms.getD i []).length≤(a.ds.getD i ad0).2:=by
 obtain⟨cs,rfl,hsz⟩:=okWide_struct Tryz.underlying25 hv;have hs4:cs.size=4:=hsz.trans (show Tryz.prog.cellsOf 25=4 by kernel_rfl);obtain⟨c0,c1,c2,c3,rfl⟩:∃c0 c1 c2 c3,cs= #[c0,c1,c2,c3]:=by
  obtain⟨l⟩:=cs;match l,hs4 with
  |[c0,c1,c2,c3],_=>exact⟨c0,c1,c2,c3,rfl⟩
 obtain⟨fuel,hf⟩:=h;obtain⟨y0,y1,y2,y3,k,h0,h1,h2,h3⟩:=trod_struct4 Tryz.underlying25 hf;have e0:Tryz.prog.cellsOf 22=1:=by kernel_rfl
 have e1:Tryz.prog.cellsOf 23=1:=by kernel_rfl
 have e2:Tryz.prog.cellsOf 3=1:=by kernel_rfl
 simp only[e0,e1,e2]at h0 h1 h2 h3;replace h0:DataW.trod enc Tryz.prog W 0 (fun _=>true) true k 22 [c0]=some y0:=h0;replace h1:DataW.trod enc Tryz.prog W 0 (fun _=>true) true k 23 [c1]=some y1:=h1;replace h2:DataW.trod enc Tryz.prog W 0 (fun _=>true) true k 3 [c2]=some y2:=h2;replace h3:DataW.trod enc Tryz.prog W 0 (fun _=>true) true k 3 [c3]=some y3:=h3;obtain⟨A0,ds,dd,d0,q0,r0⟩:=open_dms h0;obtain⟨A1,l1,d1,q1,r1⟩:=open_row (IsCx W) cx0 Tryz.underlying23 (sz:=4) (by kernel_rfl) (by decide) open_cx h1;obtain⟨i2,q2,_,_⟩:=DataW.trod_int Tryz.underlying3 h2;obtain⟨i3,q3,_,_⟩:=DataW.trod_int Tryz.underlying3 h3;obtain rfl:c0= .slice A0 dd.length d0:=by simpa using q0
 obtain rfl:c1= .slice A1 l1.length d1:=by simpa using q1
 obtain rfl:c2= .int .i64 i2:=by simpa using q2
 obtain rfl:c3= .int .i64 i3:=by simpa using q3
 refine⟨⟨(A0,d0),ds,(A1,d1),l1.map (·.x),l1.map (·.a)⟩,⟨dd,l1.map (·.c),i2,i3⟩,?_,⟨r0.1,cons_of r1⟩,r0.2⟩;show _=Value.agg #[.slice A0 dd.length d0,.slice A1 (l1.map (·.c)).length d1,iw i2,iw i3];rw[List.length_map]
theorem okWide_array {P:Program}{w:World}{r:Reach}{base n:Nat}{t e:TypeId}{v:Value}(ht:P.underlying t=some (.array n e))(h:Value.okWide P w r base t v):∃cs,v= .agg cs∧cs.size=P.cellsOf t:=by
 simp only[Value.okWide,ht]at h;obtain⟨cs,h1,h2,_⟩:=h;exact⟨cs,h1,h2⟩
theorem open_two {H:Type}{enc:TypeId×Value→H}{W:World}{base:Nat}{v:Value}{d:DataW H}{p:List MemPlace}(hv:Value.okWide Tryz.prog W .any base 62 v)(h:DataW.Trod enc Tryz.prog W 0 (fun _=>true) true 62 v d p):∃a b:Int,v= .agg #[.int .i64 a,.int .i64 b]:=by
 obtain⟨cs,rfl,hsz⟩:=okWide_array Tryz.underlying62 hv;have hs2:cs.size=2:=hsz.trans (show Tryz.prog.cellsOf 62=2 by kernel_rfl);obtain⟨c0,c1,rfl⟩:∃c0 c1,cs= #[c0,c1]:=by
  obtain⟨l⟩:=cs;match l,hs2 with
  |[c0,c1],_=>exact⟨c0,c1,rfl⟩
 obtain⟨fuel,hf⟩:=h;obtain⟨xs,m,_,_,_,hl,hx⟩:=DataW.trod_array Tryz.underlying62 hf;have e0:Tryz.prog.cellsOf 2=1:=by kernel_rfl
 match xs,hl with
 |[y0,y1],_=>
  have h0:=hx 0 (by decide);have h1:=hx 1 (by decide);simp only[e0]at h0 h1;replace h0:DataW.trod enc Tryz.prog W 0 (fun _=>true) true m 2 [c0]=some y0:=h0;replace h1:DataW.trod enc Tryz.prog W 0 (fun _=>true) true m 2 [c1]=some y1:=h1;obtain⟨i0,q0,_,_⟩:=DataW.trod_int Tryz.underlying2 h0;obtain⟨i1,q1,_,_⟩:=DataW.trod_int Tryz.underlying2 h1;obtain rfl:c0= .int .i64 i0:=by simpa using q0
  obtain rfl:c1= .int .i64 i1:=by simpa using q1
  exact⟨i0,i1,rfl⟩
end Go.Proofs.YtecfcjdgmpopjaaGreat

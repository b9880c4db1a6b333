/-
  Joined texts: Ko, Kp.
-/
import Derived.Test.YtecfcjdgmpopjaaGreatKn
set_option maxHeartbeats 16000000
set_option maxRecDepth 100000
set_option linter.unusedSimpArgs false
set_option linter.unusedVariables false
namespace Go.Proofs.YtecfcjdgmpopjaaGreat
open Go.RowKit Num
def best3:Option (Nat×Nat×Bool)→Value
 |none=> .int .i64 (-1)
 |some (i,_,_)=> .int .i64 (i:Nat)
def up3:Option (Nat×Nat×Bool)→Bool
 |none=>false
 |some (_,_,r)=>r
def lessB3 (v:Nat):Option (Nat×Nat×Bool)→Bool
 |none=>true
 |some (_,u,_)=>decide (v<u)
def cheapS (s:Int)(R F:Bool):Bool:=(decide (s<0)&&R)||(decide (0<s)&&F)
theorem cheapGo_step (b:Tb)(k v:Nat)(best:Option (Nat×Nat×Bool))(a:Rat)(l:List Rat)(f:List Nat):cheapGo b k best (a::l) (v::f)=cheapGo b (k+1) (if cheapS (sgnQ a) (b.var v).mayRise (b.var v).mayFall&&lessB3 v best then some (k,v,decide (sgnQ a<0)&&(b.var v).mayRise) else best) l f:=by
 unfold cheapS;rw[(sgn_dec a).1,(sgn_dec a).2];cases best<;>rfl
def BestOk3 (l:List Nat)(j:Nat)(best:Option (Nat×Nat×Bool)):Prop:=∀i u r,best=some (i,u,r)→i<j∧l.getD i 0=u
theorem BestOk3.up {l:List Nat}{j:Nat}{best:Option (Nat×Nat×Bool)}(h:BestOk3 l j best):BestOk3 l (j+1) best:=fun i u r e=>⟨by have:=(h i u r e).1;omega,(h i u r e).2⟩
theorem BestOk3.new {l:List Nat}{j:Nat}{r:Bool}:BestOk3 l (j+1) (some (j,l.getD j 0,r)):=fun i u r' e=>by
 injection e with e;injection e with e1 e2;injection e2 with e2 e3;subst e1 e2;exact⟨by omega,rfl⟩
theorem cheap_any {w:World}{d:Ad}{b:Tb}(h:TAt tyT w d b)(hw:Wf b):Calls Tryz.prog 184 #[vptr d.t0] w fun e w'=>e= .returned (.tuple #[best3 (cheapGo b 0 none b.cost b.free),.bool (up3 (cheapGo b 0 none b.cost b.free))])∧Below w.heap.size w w':=by
 have HT:=ZH h;have HW:=ZH hw;obtain⟨h0,h1,h2,h3,h4,h5,h6⟩:=h.head.seven;have hRow:=ZH h.co;have hlen:=hw.fc;obtain⟨VA,hVA⟩:∃VA,d.V.1=VA:=⟨_,rfl⟩;obtain⟨FA,hFA⟩:∃FA,d.F.1=FA:=⟨_,rfl⟩;rw[hFA]at h3;rw[hVA]at h1;have HFA:=ZH hFA;have HVA:=ZH hVA;have hsf:=hw.sf;clear h h0 h2 h4 h6 hFA hVA hw;generalize d.F.2=cF at*;generalize d.V.2=cV at*;generalize d.C.2=cC at*;obtain⟨LA,hLA⟩:∃LA,d.C.1=LA:=⟨_,rfl⟩;rw[hLA]at h5 hRow;clear hLA;obtain⟨lt,hlt⟩:∃lt,b.cost=lt:=⟨_,rfl⟩;rw[hlt]at h5 hRow hlen⊢;clear hlt;obtain⟨R,hR⟩:∃R,cheapGo b 0 none lt b.free=R:=⟨_,rfl⟩;rw[hR];have HR:Hid (R=cheapGo b 0 none (lt.drop 0) (b.free.drop 0)):=hR.symm;clear hR;have H1:=Lk.of h1;have H3:=Lk.of h3;have H5:=Lk.of h5;go_enter Tryz.func184,Tryz.ntmps184;go_wp2_with fail;go_loopg [16,4,5] b.free.length (fun k p v z wr=>∃(j:Nat)(best:Option (Nat×Nat×Bool)),k=b.free.length-j∧j≤b.free.length∧p= .int .i64 (j:Nat)∧v=best3 best∧z= .bool (up3 best)∧Hid (R=cheapGo b j best (lt.drop j) (b.free.drop j))∧Hid (BestOk3 b.free j best)∧Below w.heap.size w wr)
 case atStart=>exact⟨0,none,rfl,Nat.zero_le _,rfl,rfl,rfl,HR.out,(fun i u r e=>by cases e),Below.refl _ _⟩
 case round=>
  obtain⟨j,best,hk,hj,rfl,rfl,rfl,HL,HO,hbl⟩:=hrel;clear h1 h3 h5;by_cases hlt:j<b.free.length
  ·have d1:decide ((j:Int)<(b.free.length:Int))=true:=dT (by omega);have hlt2:j<lt.length:=by omega
   have HTr:=ZH (HT.out.below hbl);have HC:Hid (R=cheapGo b (j+1) (if cheapS (sgnQ (lt.getD j 0)) (b.var (b.free.getD j 0)).mayRise (b.var (b.free.getD j 0)).mayFall&&lessB3 (b.free.getD j 0) best then some (j,b.free.getD j 0,decide (sgnQ (lt.getD j 0)<0)&&(b.var (b.free.getD j 0)).mayRise) else best) (lt.drop (j+1)) (b.free.drop (j+1))):=by
    show _=_;rw[HL.out,drop_at (z:=0) hlt,drop_at (z:=0) hlt2,cheapGo_step]
   have hvlt:=HW.out.fv j hlt;obtain⟨gF,oF,hF,cj⟩:=HTr.out.fr j hlt;rw[HFA.out]at hF;subst hF;obtain⟨gV,oV,hV,cv⟩:=HTr.out.vp _ hvlt;rw[HVA.out]at hV;subst hV;obtain⟨gL,oL,rfl,A,c,B,d',a1,a2,a3,a4,hq⟩:=hRow.out j hlt2;have a1:=Lk.of a1 _ hbl;have a2:=Lk.of a2 _ hbl;have a3:=Lk.of a3 _ hbl;have a4:=Lk.of a4 _ hbl;clear hq;have HR1:=ZH (fun(w':World)(q:Below wr.heap.size wr w')=>vrise_any ((HTr.out.below q).vr _ hvlt));have HF1:=ZH (fun(w':World)(q:Below wr.heap.size wr w')=>vfall_any ((HTr.out.below q).vr _ hvlt));have HBe:∀i u r,best=some (i,u,r)→i<b.free.length∧Lk wr gF (oF+i) (iv6 u):=fun i u r e=>by
    obtain⟨g1,g2⟩:=HO.out i u r e;obtain⟨g',o',e',c'⟩:=HTr.out.fr i (by omega);rw[HFA.out]at e';injection e' with e';injection e' with e1 e2;subst e1 e2;refine⟨by omega,Lk.of ?_⟩;rw[←g2];exact c'
   have h1':=H1 _ hbl;have h2':=H3 _ hbl;have h5':=H5 _ hbl;have H2:=Lk.of h2';have HV2:=Lk.of h1';have HO2:Hid (BestOk3 b.free j best):=HO;clear HL HTr H1 H3 H5;obtain⟨v,hvg⟩:∃v,b.free.getD j 0=v:=⟨_,rfl⟩;rw[hvg]at HC hvlt cv HR1 HF1;have HVG:=ZH hvg;replace cj:wr.cell? ⟨gF,oF+j,none⟩=some (iv6 v):=by rw[←hvg];exact cj
   clear hvg;replace cv:wr.cell? ⟨gV,oV+v,none⟩=some (vptr (d.vs.getD v 0)):=cv;have CV:=Lk.of cv;generalize d.vs.getD v 0=g at*;generalize (b.var v).mayRise=B1 at*;generalize (b.var v).mayFall=B2 at*;generalize lt.getD j 0=a at*;have hs3:=sgn_three a;have HS1:=ZH (fun(w':World)=>psign_any (w:=w') (A:=A) (B:=B) (c:=c) (d:=d') (p:=a));unfold qv at HS1;generalize sgnQ a=S at*;generalize sN a.num=an at*;generalize (sD a.num).length=al at*;generalize (dig a.den).length=ad at*;clear HT HW;have q4:=Below.refl wr.heap.size wr;go_wp2_with fail;refine(HS1.out _).mono ?_;rintro e w1 ⟨rfl,q9⟩;replace q4:=bT q4 q9;clear q9;have u1:=HV2 _ q4;have u2:=CV _ q4;rcases hs3 with rfl|rfl|rfl
   ·cases B2 with
    |true=>
     go_wp2_with fail;refine(HF1.out _ q4).mono ?_;rintro e w2 ⟨rfl,q9⟩;replace q4:=bT q4 q9;clear q9;cases best with
     |none=>
      have HC2:Hid (R=cheapGo b (j+1) (some (j,v,false)) (lt.drop (j+1)) (b.free.drop (j+1))):=by
       show _=_;rw[HC.out];rfl
      simp only[best3,up3];go_wp2_with fail;go_roundg (b.free.length-(j+1))
      case measure=>omega
      case rel=>exact⟨j+1,some (j,v,false),rfl,by omega,by simp,rfl,rfl,HC2.out,(by rw[←HVG.out];exact BestOk3.new),bT hbl q4⟩
     |some p=>
      obtain⟨i',u,r'⟩:=p;simp only[best3,up3];obtain⟨hi',Li⟩:=HBe i' u r' rfl;have u1:=H2 _ q4;have u2:=Li _ q4;have d2:decide ((i':Int)<0)=false:=dF (by omega);by_cases hvu:v<u
      ·have d3:decide ((v:Int)<(u:Int))=true:=dT (by omega);have HC2:Hid (R=cheapGo b (j+1) (some (j,v,false)) (lt.drop (j+1)) (b.free.drop (j+1))):=by
        show _=_;rw[HC.out];simp[lessB3,hvu,cheapS]
       go_wp2_with fail;go_roundg (b.free.length-(j+1))
       case measure=>omega
       case rel=>exact⟨j+1,some (j,v,false),rfl,by omega,by simp,rfl,rfl,HC2.out,(by rw[←HVG.out];exact BestOk3.new),bT hbl q4⟩
      ·have d3:decide ((v:Int)<(u:Int))=false:=dF (by omega);have HC2:Hid (R=cheapGo b (j+1) (some (i',u,r')) (lt.drop (j+1)) (b.free.drop (j+1))):=by
        show _=_;rw[HC.out];simp[lessB3,hvu,cheapS]
       go_wp2_with fail;go_roundg (b.free.length-(j+1))
       case measure=>omega
       case rel=>exact⟨j+1,some (i',u,r'),rfl,by omega,by simp,rfl,rfl,HC2.out,(BestOk3.up HO2.out),bT hbl q4⟩
    |false=>
     go_wp2_with fail;refine(HF1.out _ q4).mono ?_;rintro e w2 ⟨rfl,q9⟩;replace q4:=bT q4 q9;clear q9;have HC2:Hid (R=cheapGo b (j+1) best (lt.drop (j+1)) (b.free.drop (j+1))):=by
      show _=_;rw[HC.out];simp[cheapS]
     go_wp2_with fail;go_roundg (b.free.length-(j+1))
     case measure=>omega
     case rel=>exact⟨j+1,best,rfl,by omega,by simp,rfl,rfl,HC2.out,(BestOk3.up HO2.out),bT hbl q4⟩
   ·cases B1 with
    |true=>
     go_wp2_with fail;refine(HR1.out _ q4).mono ?_;rintro e w2 ⟨rfl,q9⟩;replace q4:=bT q4 q9;clear q9;cases best with
     |none=>
      have HC2:Hid (R=cheapGo b (j+1) (some (j,v,true)) (lt.drop (j+1)) (b.free.drop (j+1))):=by
       show _=_;rw[HC.out];rfl
      simp only[best3,up3];go_wp2_with fail;go_roundg (b.free.length-(j+1))
      case measure=>omega
      case rel=>exact⟨j+1,some (j,v,true),rfl,by omega,by simp,rfl,rfl,HC2.out,(by rw[←HVG.out];exact BestOk3.new),bT hbl q4⟩
     |some p=>
      obtain⟨i',u,r'⟩:=p;simp only[best3,up3];obtain⟨hi',Li⟩:=HBe i' u r' rfl;have u1:=H2 _ q4;have u2:=Li _ q4;have d2:decide ((i':Int)<0)=false:=dF (by omega);by_cases hvu:v<u
      ·have d3:decide ((v:Int)<(u:Int))=true:=dT (by omega);have HC2:Hid (R=cheapGo b (j+1) (some (j,v,true)) (lt.drop (j+1)) (b.free.drop (j+1))):=by
        show _=_;rw[HC.out];simp[lessB3,hvu,cheapS]
       go_wp2_with fail;go_roundg (b.free.length-(j+1))
       case measure=>omega
       case rel=>exact⟨j+1,some (j,v,true),rfl,by omega,by simp,rfl,rfl,HC2.out,(by rw[←HVG.out];exact BestOk3.new),bT hbl q4⟩
      ·have d3:decide ((v:Int)<(u:Int))=false:=dF (by omega);have HC2:Hid (R=cheapGo b (j+1) (some (i',u,r')) (lt.drop (j+1)) (b.free.drop (j+1))):=by
        show _=_;rw[HC.out];simp[lessB3,hvu,cheapS]
       go_wp2_with fail;go_roundg (b.free.length-(j+1))
       case measure=>omega
       case rel=>exact⟨j+1,some (i',u,r'),rfl,by omega,by simp,rfl,rfl,HC2.out,(BestOk3.up HO2.out),bT hbl q4⟩
    |false=>
     go_wp2_with fail;refine(HR1.out _ q4).mono ?_;rintro e w2 ⟨rfl,q9⟩;replace q4:=bT q4 q9;clear q9;have HC2:Hid (R=cheapGo b (j+1) best (lt.drop (j+1)) (b.free.drop (j+1))):=by
      show _=_;rw[HC.out];simp[cheapS]
     go_wp2_with fail;go_roundg (b.free.length-(j+1))
     case measure=>omega
     case rel=>exact⟨j+1,best,rfl,by omega,by simp,rfl,rfl,HC2.out,(BestOk3.up HO2.out),bT hbl q4⟩
   ·have HC2:Hid (R=cheapGo b (j+1) best (lt.drop (j+1)) (b.free.drop (j+1))):=by
     show _=_;rw[HC.out];simp[cheapS]
    go_wp2_with fail;go_roundg (b.free.length-(j+1))
    case measure=>omega
    case rel=>exact⟨j+1,best,rfl,by omega,by simp,rfl,rfl,HC2.out,(BestOk3.up HO2.out),bT hbl q4⟩
  ·have d1:decide ((j:Int)<(b.free.length:Int))=false:=dF (by omega);have hlt2:¬j<lt.length:=by omega
   have HC2:Hid (R=best):=by
    show _=_;rw[HL.out,drop_none hlt,drop_none hlt2];rfl
   clear HT HW;cases best with
   |none=>
    simp only[best3,up3];go_wp2_with fail;exact bodyPost_ret (v:= .tuple #[.int .i64 (-1),.bool false]) (by simp[results,Tryz.results184,go_sem]) rfl ⟨by rw[HC2.out];rfl,hbl⟩
   |some p=>
    obtain⟨i',u,r'⟩:=p;simp only[best3,up3];go_wp2_with fail;exact bodyPost_ret (v:= .tuple #[.int .i64 (i':Nat),.bool r']) (by simp[results,Tryz.results184,go_sem]) rfl ⟨by rw[HC2.out];rfl,hbl⟩
theorem pof_any {z:Int}{w:World}(hz: -9223372036854775808≤z)(hz':z≤9223372036854775807):Calls Tryz.prog 26 #[.int .i64 z] w fun e w'=>Below w.heap.size w w'∧∃A c B d,e= .returned (qv (z:Rat) A c B d)∧QR w' A c B d (z:Rat):=by
 refine(qof_any z w hz hz').mono ?_;rintro e w1 ⟨⟨A,c,B,d,rfl,h1,h2⟩,q⟩;have hd:=den_int z;refine⟨q,A,c,B,d,?_,h1,?_,few_int (Nat.le_trans (sD_small (k:=2) (by omega)) (by decide))⟩
 ·unfold qv;rw[hd];rfl
 ·rw[hd];exact h2
theorem sumO_step (b:Tb)(s a:Rat)(v:Nat)(l:List Rat)(f:List Nat):sumO b s (a::l) (v::f)=((mulO a (b.var v).v).bind fun p=>addO s p).bind fun t=>sumO b t l f:=by
 show((mulO a (b.var v).v).bind fun p=>(addO s p).bind fun t=>sumO b t l f)=_;cases mulO a (b.var v).v<;>rfl
abbrev z4:Array Value:= #[.bool false,.slice none 0 0,.bool false,.slice none 0 0]
theorem sum_any {ok:Nat→Prop}{w:World}{d:Ad}{b:Tb}(h:TAtO ok tyT w d b){i:Nat}(hi:i<b.t.length)(hft:(b.t.getD i []).length=b.free.length)(hsf:b.free.length≤1000)(hfv:∀j,j<b.free.length→b.free.getD j 0<b.vars.length)(hok:∀j,j<b.free.length→ok (b.free.getD j 0)):Calls Tryz.prog 137 #[vptr d.t0,iv6 i] w fun e w'=>RetP w w' e (sumO b 0 (b.t.getD i []) b.free):=by
 have HT:=ZH h;have HFV:=ZH hfv;have HOK:=ZH hok;obtain⟨h0,h1,h2,h3,h4,h5,h6⟩:=h.head.seven;obtain⟨gT,oT,hTA,ci⟩:=h.tp i hi;replace ci:w.cell? ⟨gT,oT+i,none⟩=some (.slice (d.ls.getD i (none,0)).1 (b.t.getD i []).length (d.ls.getD i (none,0)).2):=ci;have hRow:=ZH (h.tr i hi);obtain⟨VA,hVA⟩:∃VA,d.V.1=VA:=⟨_,rfl⟩;obtain⟨FA,hFA⟩:∃FA,d.F.1=FA:=⟨_,rfl⟩;rw[hFA]at h3;rw[hVA]at h1;rw[hTA]at h4;have HFA:=ZH hFA;have HVA:=ZH hVA;clear h h0 h2 h5 h6 hFA hVA hfv hTA hok;generalize d.F.2=cF at*;generalize d.V.2=cV at*;generalize d.T.2=cT at*;generalize (d.ls.getD i (none,0)).2=cL at*;obtain⟨LA,hLA⟩:∃LA,(d.ls.getD i (none,0)).1=LA:=⟨_,rfl⟩;rw[hLA]at ci hRow;clear hLA;obtain⟨lt,hlt⟩:∃lt,b.t.getD i []=lt:=⟨_,rfl⟩;rw[hlt]at ci hRow hft⊢;clear hlt;obtain⟨R,hR⟩:∃R,sumO b 0 lt b.free=R:=⟨_,rfl⟩;rw[hR];have HR:Hid (R=sumO b 0 (lt.drop 0) (b.free.drop 0)):=hR.symm;clear hR;have H1:=Lk.of h1;have H3:=Lk.of h3;have H4:=Lk.of h4;have HI:=Lk.of ci;have M:=(Mem.start w).new 72 z4;go_enter Tryz.func137,Tryz.ntmps137;go_wp2_with fail;refine(pof_any (z:=0) (by decide) (by decide)).mono ?_;rintro e w1 ⟨q1,A0,c0,B0,d0,rfl,hq0⟩;have HQ0:=ZH hq0;clear hq0;replace M:=M.below q1;have p1:=(M.k (i:=0) rfl).lt;replace M:=M.new 72 z4;clear h1 h3 h4 ci q1;go_wp2_with ((with_reducible refine st_ ?_);refine wP2 _ _ (M.k (i:=0) rfl) rfl rfl rfl rfl info_rat rfl rfl ?_;intro w4 b4 g4;have HQ4:=ZH ((HQ0.out.below (bA1 _ _)).boxed ((M.k (i:=0) rfl).box rfl) g4);replace M:=M.row (by omega) (by simp;omega) rfl b4 g4;have h4:=H4 _ M.bel;have hi':=HI _ M.bel);generalize w1.heap.size=g5 at*;clear HQ0;go_loopg [17] b.free.length (fun k p wr=>∃(j:Nat)(s:Rat)(A:Option Addr)(c:Nat)(B:Option Addr)(d':Nat),k=b.free.length-j∧j≤b.free.length∧p= .int .i64 (j:Nat)∧Hid (R=sumO b s (lt.drop j) (b.free.drop j))∧Mem w wr [(g5,72,qcs s A c B d'),(w.heap.size,72,z4)] []∧Hid (QR wr A c B d' s))
 case atStart=>exact⟨0,0,A0,c0,B0,d0,rfl,Nat.zero_le _,rfl,HR.out,M,HQ4.out⟩
 case round=>
  clear HQ4 M h4 hi';obtain⟨j,sm,A,c,B,d',hk,hj,rfl,HL,M,HQ⟩:=hrel;have p2:=(M.k (i:=0) rfl).lt;by_cases hlt:j<b.free.length
  ·have d1:decide ((j:Int)<(lt.length:Int))=true:=dT (by omega);have hlt2:j<lt.length:=by omega
   have HTr:=ZH (HT.out.below M.bel);have HC:Hid (R=((mulO (lt.getD j 0) (b.var (b.free.getD j 0)).v).bind fun p=>addO sm p).bind fun t=>sumO b t (lt.drop (j+1)) (b.free.drop (j+1))):=by
    show _=_;rw[HL.out,drop_at (z:=0) hlt,drop_at (z:=0) hlt2,sumO_step]
   have hvlt:=HFV.out j hlt;obtain⟨gF,oF,hF,cj⟩:=HTr.out.fr j hlt;rw[HFA.out]at hF;subst hF;obtain⟨gV,oV,hV,cv⟩:=HTr.out.vp _ hvlt;rw[HVA.out]at hV;subst hV;obtain⟨gL,oL,rfl,A',c',B',d2,a1,a2,a3,a4,hq⟩:=hRow.out j hlt2;have HA:=ZH (hq.below M.bel);have a1:=Lk.of a1 _ M.bel;have a2:=Lk.of a2 _ M.bel;have a3:=Lk.of a3 _ M.bel;have a4:=Lk.of a4 _ M.bel;obtain⟨A3,c3,B3,d3,x1,x2,x3,x4,hx⟩:=(HTr.out.vro _ hvlt (HOK.out j hlt)).v;have X1:=Lk.of x1;have X2:=Lk.of x2;have X3:=Lk.of x3;have X4:=Lk.of x4;have HX:=ZH hx;have V1:=Lk.of (H1 _ M.bel);have V3:=Lk.of (H3 _ M.bel);obtain⟨v,hvg⟩:∃v,b.free.getD j 0=v:=⟨_,rfl⟩;have CF:Lk wr gF (oF+j) (iv6 v):=by rw[←hvg];exact Lk.of cj
   have CV:Lk wr gV (oV+v) (vptr (d.vs.getD v 0)):=by rw[←hvg];exact Lk.of cv
   rw[hvg]at HC hvlt X1 X2 X3 X4 HX;clear hq HL HTr cj cv hvg x1 x2 x3 x4 hx;generalize d.vs.getD v 0=g at*;generalize (b.var v).v=x at*;generalize lt.getD j 0=a at*;have M2:=M.rebase.new 72 z4;go_upto_region 5 with ((with_reducible refine st_ ?_);refine wP2 _ _ (M2.k (i:=0) rfl) rfl rfl rfl rfl info_rat rfl rfl ?_;intro w5 b5 g5';replace M2:=M2.row (by omega) (by simp;omega) rfl b5 g5');have q2:=M2.bel;have HA2:=ZH (HA.out.below q2);have HX2:=ZH (HX.out.below q2);have HQ2:=ZH (HQ.out.below q2);have hb2:=bT M.bel q2;clear b5 g5';refine region_tail (n:=20) (frame:= ?frame1) (fun jK=>[kF (.agg #[.bool (sN sm.num),.slice A (sD sm.num).length c,.bool false,.slice B (dig sm.den).length d']),kF (.agg #[.bool (sN a.num),.slice A' (sD a.num).length c',.bool false,.slice B' (dig a.den).length d2]),kP d.t0 0,kP d.t0 0,kP d.t0 1,kF (.slice (some ⟨gV,oV,none⟩) b.vars.length cV),kP d.t0 0,kP d.t0 0,kP d.t0 3,kF (.slice (some ⟨gF,oF,none⟩) b.free.length cF),kI ((j:Nat)),kP gF (oF+j),kI ((v:Nat)),kP gV (oV+v),kP g 0,kP g 0,kP g 10,kF (qv x A3 c3 B3 d3),.val (Sh.rq (mulO a x)),.val (Sh.rq ((mulO a x).bind fun p=>addO sm p))].getD jK .none) (fun s' w'=>∃q9 A9 c9 B9 d9,Hid (R=sumO b q9 (lt.drop (j+1)) (b.free.drop (j+1)))∧Mem w w' [(g5,72,qcs q9 A9 c9 B9 d9),(w.heap.size,72,z4)] []∧Hid (QR w' A9 c9 B9 d9 q9)) _ (by kernel_rfl) (by kernel_rfl) (by kernel_rfl) rfl rfl (by kernel_rfl) M2.rebase ?_ ?_ ?_ ?_
   case refine_1=>
    intro s;simp only[fr,Act.put,zA,zB,zC,zD,zE,zF,Nat.reduceAdd];rfl
   case refine_2=>
    iterate 20 (refine SN ?_ ?_;rotate_left)
    exact Steps.nil;all_goals (intro L s w9 hN hU hi hS K hK;dsimp only at hK⊢;simp only[Act.put,zD,zE,zF]at hK)
    ·obtain⟨u1,u2,u3,u4⟩:=(hS.mem.k (i:=1) rfl).four;go_simp;exact hS.o hK
    ·obtain⟨u1,u2,u3,u4⟩:=(hS.mem.k (i:=0) rfl).four;go_simp;exact hS.o hK
    ·go_simp;exact hS.o hK
    ·simp only[hS.f hN 2]at hK⊢;go_simp;exact hS.o hK
    ·simp only[hS.f hN 3]at hK⊢;go_simp;exact hS.o hK
    ·simp only[hS.f hN 4]at hK⊢;have u0:=V1 _ (bT q2 hS.mem.bel);go_simp;exact hS.o hK
    ·go_simp;exact hS.o hK
    ·simp only[hS.f hN 6]at hK⊢;go_simp;exact hS.o hK
    ·simp only[hS.f hN 7]at hK⊢;go_simp;exact hS.o hK
    ·simp only[hS.f hN 8]at hK⊢;have u0:=V3 _ (bT q2 hS.mem.bel);go_simp;exact hS.o hK
    ·go_simp;exact hS.o hK
    ·simp only[hS.f hN 9,hS.f hN 10]at hK⊢;go_simp;exact hS.o hK
    ·simp only[hS.f hN 11]at hK⊢;have u0:=CF _ (bT q2 hS.mem.bel);go_simp;exact hS.o hK
    ·simp only[hS.f hN 5,hS.f hN 12]at hK⊢;go_simp;exact hS.o hK
    ·simp only[hS.f hN 13]at hK⊢;have u0:=CV _ (bT q2 hS.mem.bel);go_simp;exact hS.o hK
    ·simp only[hS.f hN 14]at hK⊢;go_simp;exact hS.o hK
    ·simp only[hS.f hN 15]at hK⊢;go_simp;exact hS.o hK
    ·simp only[hS.f hN 16]at hK⊢;have u0:=X1 _ (bT q2 hS.mem.bel);have u1:=X2 _ (bT q2 hS.mem.bel);have u2:=X3 _ (bT q2 hS.mem.bel);have u3:=X4 _ (bT q2 hS.mem.bel);go_simp;exact hS.o hK
    ·simp only[hS.f hN 1,hS.f hN 17]at hK⊢;go_simp;go_at_call 119;refine(pmul_any (HA2.out.below hS.mem.bel) (HX2.out.below hS.mem.bel)).mono ?_;rintro e9 w10 ⟨q,⟨q9,A9,c9,B9,d9,ho9,rfl,hq9⟩|⟨ho9,v9,rfl⟩⟩
     ·exact hK.out _ _ (hS.val rfl (nSo rfl) q ⟨q9,A9,c9,B9,d9,ho9,rfl,hq9⟩)
     ·exact⟨rfl,bT (bT hb2 hS.mem.bel) q,.inr ⟨HC.out.trans (bind_n (bind_n ho9)),v9,rfl⟩⟩
    ·simp only[hS.f hN 0]at hK⊢;obtain⟨q18,A18,c18,B18,d18,o18,e18,h18⟩:=hS.val_at 18 rfl (by decide) (hN.out 18 rfl);simp only[e18]at hK⊢;go_simp;go_at_call 118;refine(padd_any (HQ2.out.below hS.mem.bel) h18).mono ?_;rintro e9 w10 ⟨q,⟨q9,A9,c9,B9,d9,ho9,rfl,hq9⟩|⟨ho9,v9,rfl⟩⟩
     ·exact hK.out _ _ (hS.val rfl (nSo rfl) q ⟨q9,A9,c9,B9,d9,bind_s o18 ho9,rfl,hq9⟩)
     ·exact⟨rfl,bT (bT hb2 hS.mem.bel) q,.inr ⟨HC.out.trans (bind_n (bind_sn o18 ho9)),v9,rfl⟩⟩
   case refine_3=>
    intro L s w9 hall hS K hK;dsimp only at hK⊢;simp only[Act.put,zD,zE,zF]at hK;obtain⟨q19,A19,c19,B19,d19,o19,e19,h19⟩:=hS.val_at 19 rfl (by decide) (hall 19 (by decide));simp only[e19]at hK⊢;refine ite_of rfl ?_;have m9:Mem w w9 [(g5,72,qcs sm A c B d'),(w.heap.size,72,z4)] []:=(M.below q2).below hS.mem.bel;have b9:=m9.k (i:=0) rfl;refine wp_store_row _ _ _ rfl g5 _ rfl rfl _ _ b9 info_rat rfl (by rw[←Array.all_toList];rfl) ?_;exact hK.out undef _ ⟨q19,A19,c19,B19,d19,HC.out.trans (by rw[o19];rfl),m9.row (by omega) (by simp;omega) rfl (b9.row _) (sRG _ _ _),h19.boxed (b9.box rfl) (sRG _ _ _)⟩
   intro s w9 hR;obtain⟨q9,A9,c9,B9,d9,HR9,M9,HQ9⟩:=hR;go_wp2_with fail;go_roundg (b.free.length-(j+1))
   case measure=>omega
   case rel=>exact⟨j+1,q9,A9,c9,B9,d9,rfl,by omega,by simp,HR9.out,M9,HQ9⟩
  ·have d1:decide ((j:Int)<(lt.length:Int))=false:=dF (by omega);have hlt2:¬j<lt.length:=by omega
   have HC2:Hid (R=some sm):=by
    show _=_;rw[HL.out,drop_none hlt,drop_none hlt2];rfl
   clear HL HT HFV;obtain⟨v1,v2,v3,v4⟩:=(M.k (i:=0) rfl).four;go_wp2_with ((with_reducible refine st_ ?_);refine wP2 _ _ (M.k (i:=1) rfl) rfl rfl rfl rfl info_rat rfl rfl ?_;intro w5 b5 g5';obtain⟨f1,f2,f3,f4⟩:=b5.four);refine bodyPost_ret (v:=qv sm A c B d') (by simp[results,Tryz.results137,go_sem,f1,f2,f3,f4]) rfl ⟨below_own M.bel g5' ZL,.inl ⟨sm,A,c,B,d',HC2.out,rfl,HQ.out.boxed ((M.k (i:=1) rfl).box rfl) g5'⟩⟩
end Go.Proofs.YtecfcjdgmpopjaaGreat

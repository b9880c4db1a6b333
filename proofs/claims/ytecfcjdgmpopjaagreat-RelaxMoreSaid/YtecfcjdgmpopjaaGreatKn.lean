/-
  Joined texts: Kl, Km, Kn.
-/
import Derived.Test.YtecfcjdgmpopjaaGreatKk
set_option maxRecDepth 100000
set_option linter.unusedSimpArgs false
set_option linter.unusedVariables false
namespace Go.Proofs.YtecfcjdgmpopjaaGreat
open Go.RowKit Num
theorem Blk.seven {w:World}{g:Nat}{t:TypeId}{a b c d e f k:Value}(h:Blk w g t #[a,b,c,d,e,f,k]):w.cell? ⟨g,0,none⟩=some a∧w.cell? ⟨g,1,none⟩=some b∧w.cell? ⟨g,2,none⟩=some c∧w.cell? ⟨g,3,none⟩=some d∧w.cell? ⟨g,4,none⟩=some e∧w.cell? ⟨g,5,none⟩=some f∧w.cell? ⟨g,6,none⟩=some k:=
 ⟨(h.cell 0).trans rfl,(h.cell 1).trans rfl,(h.cell 2).trans rfl,(h.cell 3).trans rfl,(h.cell 4).trans rfl,(h.cell 5).trans rfl,(h.cell 6).trans rfl⟩
abbrev tyT:TypeId:=180
theorem step_ok {w:World}{d:Ad}{b:Tb}(h:TAt tyT w d b)(n:Nat)(hl:b.left=n+1)(hn:n≤10000):Calls Tryz.prog 178 #[vptr d.t0] w fun e w'=>e= .returned (.tuple #[])∧Stp d.S w w'∧TAt tyT w' d {b with left:=n}:=by
 have HT:=ZH (h.putLeft n);obtain⟨h0,h1,h2,h3,h4,h5,h6⟩:=h.head.seven;rw[hl]at h6;have hf:=h.head.frozen 6;generalize d.t0=g at*;have d1:(((n+1:Nat):Int)==0)=false:=eq_boolK (by omega);have d2:wrap64 (((n+1:Nat):Int)-1)=(n:Int):=by
  rw[show((n+1:Nat):Int)-1=(n:Int) by omega];unfold wrap64;omega
 clear h hl;generalize ((n+1:Nat):Int)=N at*;go_enter Tryz.func178,Tryz.ntmps178;go_wp2_with fail;exact⟨rfl,_,by simp[results,Tryz.results178,go_sem],rfl,HT.out⟩
theorem step_bad {w:World}{d:Ad}{b:Tb}(h:TAt tyT w d b)(hl:b.left=0):Calls Tryz.prog 178 #[vptr d.t0] w fun e w'=>ThrewX e∧Below w.heap.size w w':=by
 obtain⟨h0,h1,h2,h3,h4,h5,h6⟩:=h.head.seven;rw[hl]at h6;generalize d.t0=g at*;clear h hl;go_enter Tryz.func178,Tryz.ntmps178;go_wp2_with fail;exact⟨rfl,⟨(_,_),rfl⟩,Below.refl _ _⟩
set_option maxHeartbeats 8000000
def bestV:Option (Nat×Nat)→Value
 |none=> .int .i64 (-1)
 |some (i,_)=> .int .i64 (i:Nat)
def lessB (v:Nat):Option (Nat×Nat)→Bool
 |none=>true
 |some (_,u)=>decide (v<u)
theorem beyondGo_step (b:Tb)(i v:Nat)(best:Option (Nat×Nat))(l:List Nat):beyondGo b i best (v::l)=beyondGo b (i+1) (if ((b.var v).below||(b.var v).above)&&lessB v best then some (i,v) else best) l:=by
 cases best<;>rfl
def BestOk (l:List Nat)(j:Nat)(best:Option (Nat×Nat)):Prop:=∀i u,best=some (i,u)→i<j∧l.getD i 0=u
theorem BestOk.up {l:List Nat}{j:Nat}{best:Option (Nat×Nat)}(h:BestOk l j best):BestOk l (j+1) best:=fun i u e=>⟨by have:=(h i u e).1;omega,(h i u e).2⟩
theorem BestOk.new {l:List Nat}{j:Nat}:BestOk l (j+1) (some (j,l.getD j 0)):=fun i u e=>by
 injection e with e;injection e with e1 e2;subst e1 e2;exact⟨by omega,rfl⟩
theorem beyond_any {w:World}{d:Ad}{b:Tb}(h:TAt tyT w d b)(hw:Wf b):Calls Tryz.prog 177 #[vptr d.t0] w fun e w'=>e= .returned (bestV (beyondGo b 0 none b.basic))∧Below w.heap.size w w':=by
 have HT:=ZH h;have HW:=ZH hw;obtain⟨h0,h1,h2,h3,h4,h5,h6⟩:=h.head.seven;clear h h0 h3 h4 h5 h6;obtain⟨BA,hBA⟩:∃BA,d.B.1=BA:=⟨_,rfl⟩;obtain⟨VA,hVA⟩:∃VA,d.V.1=VA:=⟨_,rfl⟩;rw[hBA]at h2;rw[hVA]at h1;have HBA:=ZH hBA;have HVA:=ZH hVA;have hsb:b.basic.length≤1000:=by rw[hw.bt];exact hw.st
 clear hBA hVA hw;generalize d.B.2=cB at*;generalize d.V.2=cV at*;obtain⟨R,hR⟩:∃R,beyondGo b 0 none b.basic=R:=⟨_,rfl⟩;rw[hR];have HR:Hid (R=beyondGo b 0 none (b.basic.drop 0)):=hR.symm;clear hR;go_enter Tryz.func177,Tryz.ntmps177;go_wp2_with fail;go_loopg [12,3] b.basic.length (fun k p v wr=>∃(j:Nat)(best:Option (Nat×Nat)),k=b.basic.length-j∧j≤b.basic.length∧p= .int .i64 (j:Nat)∧v=bestV best∧Hid (R=beyondGo b j best (b.basic.drop j))∧Hid (BestOk b.basic j best)∧Below w.heap.size w wr)
 case atStart=>exact⟨0,none,rfl,Nat.zero_le _,rfl,rfl,HR.out,(fun i u e=>by cases e),Below.refl _ _⟩
 case round=>
  obtain⟨j,best,hk,hj,rfl,rfl,HL,HO,hbl⟩:=hrel;by_cases hlt:j<b.basic.length
  ·have d1:decide ((j:Int)<(b.basic.length:Int))=true:=dT (by omega);have HTr:=ZH (HT.out.below hbl);have HC:Hid (R=beyondGo b (j+1) (if ((b.var (b.basic.getD j 0)).below||(b.var (b.basic.getD j 0)).above)&&lessB (b.basic.getD j 0) best then some (j,b.basic.getD j 0) else best) (b.basic.drop (j+1))):=by
    show _=_;rw[HL.out,drop_at (z:=0) hlt,beyondGo_step]
   have hvlt:=HW.out.bv j hlt;obtain⟨gB,oB,hB,cj⟩:=HTr.out.ba j hlt;rw[HBA.out]at hB;subst hB;obtain⟨gV,oV,hV,cv⟩:=HTr.out.vp _ hvlt;rw[HVA.out]at hV;subst hV;have HB1:=ZH (fun(w':World)(q:Below wr.heap.size wr w')=>vbelow_any ((HTr.out.below q).vr _ hvlt));have HA1:=ZH (fun(w':World)(q:Below wr.heap.size wr w')=>vabove_any ((HTr.out.below q).vr _ hvlt));have HBe:∀i u,best=some (i,u)→i<b.basic.length∧Lk wr gB (oB+i) (iv6 u):=fun i u e=>by
    obtain⟨g1,g2⟩:=HO.out i u e;obtain⟨g',o',e',c'⟩:=HTr.out.ba i (by omega);rw[HBA.out]at e';injection e' with e';injection e' with e1 e2;subst e1 e2;refine⟨by omega,Lk.of ?_⟩;rw[←g2];exact c'
   have h1':=(hbl.cell (p:=⟨d.t0,1,none⟩) (World.block_lt_of_cell? w _ h1)).trans h1;have h2':=(hbl.cell (p:=⟨d.t0,2,none⟩) (World.block_lt_of_cell? w _ h2)).trans h2;have H2:=Lk.of h2';have HO2:Hid (BestOk b.basic j best):=HO;clear HL HTr;obtain⟨v,hvg⟩:∃v,b.basic.getD j 0=v:=⟨_,rfl⟩;rw[hvg]at HC hvlt cv HB1 HA1;have HVG:=ZH hvg;replace cj:wr.cell? ⟨gB,oB+j,none⟩=some (iv6 v):=by rw[←hvg];exact cj
   clear hvg;replace cv:wr.cell? ⟨gV,oV+v,none⟩=some (vptr (d.vs.getD v 0)):=cv;generalize d.vs.getD v 0=g at*;obtain⟨B1,hB1⟩:∃B1,(b.var v).below=B1:=⟨_,rfl⟩;obtain⟨B2,hB2⟩:∃B2,(b.var v).above=B2:=⟨_,rfl⟩;rw[hB1]at HB1 HC;rw[hB2]at HA1 HC;clear hB1 hB2 HT HW h1 h2;cases B1 with
   |true=>
    go_wp2_with fail;refine(HB1.out _ (Below.refl _ _)).mono ?_;rintro e w1 ⟨rfl,q4⟩;have q5:=bT hbl q4;cases best with
    |none=>
     have HC2:Hid (R=beyondGo b (j+1) (some (j,v)) (b.basic.drop (j+1))):=by
      show _=_;rw[HC.out];rfl
     simp only[bestV];go_wp2_with fail;go_roundg (b.basic.length-(j+1))
     case measure=>omega
     case rel=>exact⟨j+1,some (j,v),rfl,by omega,by simp,rfl,HC2.out,(by rw[←HVG.out];exact BestOk.new),q5⟩
    |some p=>
     obtain⟨i,u⟩:=p;simp only[bestV];obtain⟨hi,Li⟩:=HBe i u rfl;have u1:=H2 _ q4;have u2:=Li _ q4;have d2:decide ((i:Int)<0)=false:=dF (by omega);by_cases hvu:v<u
     ·have d3:decide ((v:Int)<(u:Int))=true:=dT (by omega);have HC2:Hid (R=beyondGo b (j+1) (some (j,v)) (b.basic.drop (j+1))):=by
       show _=_;rw[HC.out];simp[lessB,hvu]
      go_wp2_with fail;go_roundg (b.basic.length-(j+1))
      case measure=>omega
      case rel=>exact⟨j+1,some (j,v),rfl,by omega,by simp,rfl,HC2.out,(by rw[←HVG.out];exact BestOk.new),q5⟩
     ·have d3:decide ((v:Int)<(u:Int))=false:=dF (by omega);have HC2:Hid (R=beyondGo b (j+1) (some (i,u)) (b.basic.drop (j+1))):=by
       show _=_;rw[HC.out];simp[lessB,hvu]
      go_wp2_with fail;go_roundg (b.basic.length-(j+1))
      case measure=>omega
      case rel=>exact⟨j+1,some (i,u),rfl,by omega,by simp,rfl,HC2.out,(BestOk.up HO2.out),q5⟩
   |false=>
    go_wp2_with fail;refine(HB1.out _ (Below.refl _ _)).mono ?_;rintro e w1 ⟨rfl,q3⟩;cases B2 with
    |true=>
     go_wp2_with fail;refine(HA1.out _ q3).mono ?_;rintro e w2 ⟨rfl,q9⟩;have q4:=bT q3 q9;have q5:=bT hbl q4;cases best with
     |none=>
      have HC2:Hid (R=beyondGo b (j+1) (some (j,v)) (b.basic.drop (j+1))):=by
       show _=_;rw[HC.out];rfl
      simp only[bestV];go_wp2_with fail;go_roundg (b.basic.length-(j+1))
      case measure=>omega
      case rel=>exact⟨j+1,some (j,v),rfl,by omega,by simp,rfl,HC2.out,(by rw[←HVG.out];exact BestOk.new),q5⟩
     |some p=>
      obtain⟨i,u⟩:=p;simp only[bestV];obtain⟨hi,Li⟩:=HBe i u rfl;have u1:=H2 _ q4;have u2:=Li _ q4;have d2:decide ((i:Int)<0)=false:=dF (by omega);by_cases hvu:v<u
      ·have d3:decide ((v:Int)<(u:Int))=true:=dT (by omega);have HC2:Hid (R=beyondGo b (j+1) (some (j,v)) (b.basic.drop (j+1))):=by
        show _=_;rw[HC.out];simp[lessB,hvu]
       go_wp2_with fail;go_roundg (b.basic.length-(j+1))
       case measure=>omega
       case rel=>exact⟨j+1,some (j,v),rfl,by omega,by simp,rfl,HC2.out,(by rw[←HVG.out];exact BestOk.new),q5⟩
      ·have d3:decide ((v:Int)<(u:Int))=false:=dF (by omega);have HC2:Hid (R=beyondGo b (j+1) (some (i,u)) (b.basic.drop (j+1))):=by
        show _=_;rw[HC.out];simp[lessB,hvu]
       go_wp2_with fail;go_roundg (b.basic.length-(j+1))
       case measure=>omega
       case rel=>exact⟨j+1,some (i,u),rfl,by omega,by simp,rfl,HC2.out,(BestOk.up HO2.out),q5⟩
    |false=>
     have HC2:Hid (R=beyondGo b (j+1) best (b.basic.drop (j+1))):=HC;go_wp2_with fail;refine(HA1.out _ q3).mono ?_;rintro e w2 ⟨rfl,q9⟩;have q4:=bT q3 q9;have q5:=bT hbl q4;go_wp2_with fail;go_roundg (b.basic.length-(j+1))
     case measure=>omega
     case rel=>exact⟨j+1,best,rfl,by omega,by simp,rfl,HC2.out,(BestOk.up HO2.out),q5⟩
  ·have d1:decide ((j:Int)<(b.basic.length:Int))=false:=dF (by omega);have HC2:Hid (R=best):=by
    show _=_;rw[HL.out,drop_none hlt];rfl
   clear HT HW;cases best with
   |none=>
    simp only[bestV];go_wp2_with fail;exact bodyPost_ret (v:= .int .i64 (-1)) (by simp[results,Tryz.results177,go_sem]) rfl ⟨by rw[HC2.out];rfl,hbl⟩
   |some p=>
    obtain⟨i,u⟩:=p;simp only[bestV];go_wp2_with fail;exact bodyPost_ret (v:= .int .i64 (i:Nat)) (by simp[results,Tryz.results177,go_sem]) rfl ⟨by rw[HC2.out];rfl,hbl⟩
set_option maxHeartbeats 16000000
def helpS (up:Bool)(s:Int)(R F:Bool):Bool:=if up then decide (0<s)&&R||decide (s<0)&&F else decide (0<s)&&F||decide (s<0)&&R
theorem sgn_dec (a:Rat):decide (0<sgnQ a)=decide (0<a)∧decide (sgnQ a<0)=decide (a<0):=by
 unfold sgnQ;by_cases h0:a=0
 ·subst h0;rw[if_pos rfl];exact⟨by decide,by decide⟩
 ·rw[if_neg h0];by_cases h1:a<0
  ·rw[if_pos h1,dT h1,dF (p:=(0:Rat)<a) (fun h=>absurd (Std.lt_trans h h1) Rat.lt_irrefl)];exact⟨rfl,rfl⟩
  ·rw[if_neg h1,dF h1];have h2:0<a:=by
    rcases Rat.le_iff_lt_or_eq.1 (Rat.not_lt.1 h1) with h|h
    ·exact h
    ·exact absurd h.symm h0
   rw[dT h2];exact⟨rfl,rfl⟩
theorem sgn_three (a:Rat):sgnQ a=1∨sgnQ a= -1∨sgnQ a=0:=by
 unfold sgnQ;split
 ·exact .inr (.inr rfl)
 ·split
  ·exact .inr (.inl rfl)
  ·exact .inl rfl
theorem helpB_eq (up:Bool)(a:Rat)(x:Vr):helpB up a x=helpS up (sgnQ a) x.mayRise x.mayFall:=by
 unfold helpB helpS;rw[(sgn_dec a).1,(sgn_dec a).2]
theorem helpsGo_step (b:Tb)(up:Bool)(k v:Nat)(best:Option (Nat×Nat))(a:Rat)(l:List Rat)(f:List Nat):helpsGo b up k best (a::l) (v::f)=helpsGo b up (k+1) (if helpS up (sgnQ a) (b.var v).mayRise (b.var v).mayFall&&lessB v best then some (k,v) else best) l f:=by
 rw[←helpB_eq];cases best<;>rfl
theorem helps_any {w:World}{d:Ad}{b:Tb}(h:TAt tyT w d b)(hw:Wf b)(i:Nat)(hi:i<b.t.length)(up:Bool):Calls Tryz.prog 180 #[vptr d.t0,iv6 i,.bool up] w fun e w'=>e= .returned (bestV (helpsGo b up 0 none (b.t.getD i []) b.free))∧Below w.heap.size w w':=by
 have HT:=ZH h;have HW:=ZH hw;obtain⟨h0,h1,h2,h3,h4,h5,h6⟩:=h.head.seven;obtain⟨gT,oT,hTA,ci⟩:=h.tp i hi;replace ci:w.cell? ⟨gT,oT+i,none⟩=some (.slice (d.ls.getD i (none,0)).1 (b.t.getD i []).length (d.ls.getD i (none,0)).2):=ci;have hRow:=ZH (h.tr i hi);have hlen:=hw.ft i hi;obtain⟨VA,hVA⟩:∃VA,d.V.1=VA:=⟨_,rfl⟩;obtain⟨FA,hFA⟩:∃FA,d.F.1=FA:=⟨_,rfl⟩;rw[hFA]at h3;rw[hVA]at h1;rw[hTA]at h4;have HFA:=ZH hFA;have HVA:=ZH hVA;have hsf:=hw.sf;clear h h0 h2 h5 h6 hFA hVA hw hTA;generalize d.F.2=cF at*;generalize d.V.2=cV at*;generalize d.T.2=cT at*;generalize (d.ls.getD i (none,0)).2=cL at*;obtain⟨LA,hLA⟩:∃LA,(d.ls.getD i (none,0)).1=LA:=⟨_,rfl⟩;rw[hLA]at ci hRow;clear hLA;obtain⟨lt,hlt⟩:∃lt,b.t.getD i []=lt:=⟨_,rfl⟩;rw[hlt]at ci hRow hlen⊢;clear hlt;obtain⟨R,hR⟩:∃R,helpsGo b up 0 none lt b.free=R:=⟨_,rfl⟩;rw[hR];have HR:Hid (R=helpsGo b up 0 none (lt.drop 0) (b.free.drop 0)):=hR.symm;clear hR;have H1:=Lk.of h1;have H3:=Lk.of h3;have H4:=Lk.of h4;have HI:=Lk.of ci;go_enter Tryz.func180,Tryz.ntmps180;go_wp2_with fail;go_loopg [18,7] b.free.length (fun k p v wr=>∃(j:Nat)(best:Option (Nat×Nat)),k=b.free.length-j∧j≤b.free.length∧p= .int .i64 (j:Nat)∧v=bestV best∧Hid (R=helpsGo b up j best (lt.drop j) (b.free.drop j))∧Hid (BestOk b.free j best)∧Below w.heap.size w wr)
 case atStart=>exact⟨0,none,rfl,Nat.zero_le _,rfl,rfl,HR.out,(fun i u e=>by cases e),Below.refl _ _⟩
 case round=>
  obtain⟨j,best,hk,hj,rfl,rfl,HL,HO,hbl⟩:=hrel;clear h1 h3 h4 ci;by_cases hlt:j<b.free.length
  ·have d1:decide ((j:Int)<(b.free.length:Int))=true:=dT (by omega);have hlt2:j<lt.length:=by omega
   have HTr:=ZH (HT.out.below hbl);have HC:Hid (R=helpsGo b up (j+1) (if helpS up (sgnQ (lt.getD j 0)) (b.var (b.free.getD j 0)).mayRise (b.var (b.free.getD j 0)).mayFall&&lessB (b.free.getD j 0) best then some (j,b.free.getD j 0) else best) (lt.drop (j+1)) (b.free.drop (j+1))):=by
    show _=_;rw[HL.out,drop_at (z:=0) hlt,drop_at (z:=0) hlt2,helpsGo_step]
   have hvlt:=HW.out.fv j hlt;obtain⟨gF,oF,hF,cj⟩:=HTr.out.fr j hlt;rw[HFA.out]at hF;subst hF;obtain⟨gV,oV,hV,cv⟩:=HTr.out.vp _ hvlt;rw[HVA.out]at hV;subst hV;obtain⟨gL,oL,rfl,A,c,B,d',a1,a2,a3,a4,hq⟩:=hRow.out j hlt2;have a1:=Lk.of a1 _ hbl;have a2:=Lk.of a2 _ hbl;have a3:=Lk.of a3 _ hbl;have a4:=Lk.of a4 _ hbl;clear hq;have HR1:=ZH (fun(w':World)(q:Below wr.heap.size wr w')=>vrise_any ((HTr.out.below q).vr _ hvlt));have HF1:=ZH (fun(w':World)(q:Below wr.heap.size wr w')=>vfall_any ((HTr.out.below q).vr _ hvlt));have HBe:∀i u,best=some (i,u)→i<b.free.length∧Lk wr gF (oF+i) (iv6 u):=fun i u e=>by
    obtain⟨g1,g2⟩:=HO.out i u e;obtain⟨g',o',e',c'⟩:=HTr.out.fr i (by omega);rw[HFA.out]at e';injection e' with e';injection e' with e1 e2;subst e1 e2;refine⟨by omega,Lk.of ?_⟩;rw[←g2];exact c'
   have h1':=H1 _ hbl;have h2':=H3 _ hbl;have h4':=H4 _ hbl;have hi':=HI _ hbl;have H2:=Lk.of h2';have HV2:=Lk.of h1';have HO2:Hid (BestOk b.free j best):=HO;clear HL HTr H1 H3 H4 HI;obtain⟨v,hvg⟩:∃v,b.free.getD j 0=v:=⟨_,rfl⟩;rw[hvg]at HC hvlt cv HR1 HF1;have HVG:=ZH hvg;replace cj:wr.cell? ⟨gF,oF+j,none⟩=some (iv6 v):=by rw[←hvg];exact cj
   clear hvg;replace cv:wr.cell? ⟨gV,oV+v,none⟩=some (vptr (d.vs.getD v 0)):=cv;have CV:=Lk.of cv;generalize d.vs.getD v 0=g at*;generalize (b.var v).mayRise=B1 at*;generalize (b.var v).mayFall=B2 at*;generalize lt.getD j 0=a at*;have hs3:=sgn_three a;have HS1:=ZH (fun(w':World)=>psign_any (w:=w') (A:=A) (B:=B) (c:=c) (d:=d') (p:=a));unfold qv at HS1;generalize sgnQ a=S at*;generalize sN a.num=an at*;generalize (sD a.num).length=al at*;generalize (dig a.den).length=ad at*;clear HT HW;have q4:=Below.refl wr.heap.size wr;go_wp2_with fail;refine(HS1.out _).mono ?_;rintro e w1 ⟨rfl,q9⟩;replace q4:=bT q4 q9;clear q9;have u1:=HV2 _ q4;have u2:=CV _ q4;rcases hs3 with rfl|rfl|rfl
   ·cases up with
    |false=>
     cases B2 with
     |true=>
      go_wp2_with fail;refine(HF1.out _ q4).mono ?_;rintro e w2 ⟨rfl,q9⟩;replace q4:=bT q4 q9;clear q9;cases best with
      |none=>
       have HC2:Hid (R=helpsGo b false (j+1) (some (j,v)) (lt.drop (j+1)) (b.free.drop (j+1))):=by
        show _=_;rw[HC.out];rfl
       simp only[bestV];go_wp2_with fail;go_roundg (b.free.length-(j+1))
       case measure=>omega
       case rel=>exact⟨j+1,some (j,v),rfl,by omega,by simp,rfl,HC2.out,(by rw[←HVG.out];exact BestOk.new),bT hbl q4⟩
      |some p=>
       obtain⟨i',u⟩:=p;simp only[bestV];obtain⟨hi',Li⟩:=HBe i' u rfl;have u1:=H2 _ q4;have u2:=Li _ q4;have d2:decide ((i':Int)<0)=false:=dF (by omega);by_cases hvu:v<u
       ·have d3:decide ((v:Int)<(u:Int))=true:=dT (by omega);have HC2:Hid (R=helpsGo b false (j+1) (some (j,v)) (lt.drop (j+1)) (b.free.drop (j+1))):=by
         show _=_;rw[HC.out];simp[lessB,hvu,helpS]
        go_wp2_with fail;go_roundg (b.free.length-(j+1))
        case measure=>omega
        case rel=>exact⟨j+1,some (j,v),rfl,by omega,by simp,rfl,HC2.out,(by rw[←HVG.out];exact BestOk.new),bT hbl q4⟩
       ·have d3:decide ((v:Int)<(u:Int))=false:=dF (by omega);have HC2:Hid (R=helpsGo b false (j+1) (some (i',u)) (lt.drop (j+1)) (b.free.drop (j+1))):=by
         show _=_;rw[HC.out];simp[lessB,hvu,helpS]
        go_wp2_with fail;go_roundg (b.free.length-(j+1))
        case measure=>omega
        case rel=>exact⟨j+1,some (i',u),rfl,by omega,by simp,rfl,HC2.out,(BestOk.up HO2.out),bT hbl q4⟩
     |false=>
      go_wp2_with fail;refine(HF1.out _ q4).mono ?_;rintro e w2 ⟨rfl,q9⟩;replace q4:=bT q4 q9;clear q9;have HC2:Hid (R=helpsGo b false (j+1) best (lt.drop (j+1)) (b.free.drop (j+1))):=by
       show _=_;rw[HC.out];simp[helpS]
      go_wp2_with fail;go_roundg (b.free.length-(j+1))
      case measure=>omega
      case rel=>exact⟨j+1,best,rfl,by omega,by simp,rfl,HC2.out,(BestOk.up HO2.out),bT hbl q4⟩
    |true=>
     cases B2 with
     |true=>
      go_wp2_with fail;refine(HF1.out _ q4).mono ?_;rintro e w2 ⟨rfl,q9⟩;replace q4:=bT q4 q9;clear q9;cases B1 with
      |true=>
       go_wp2_with fail;refine(HR1.out _ q4).mono ?_;rintro e w3 ⟨rfl,q9⟩;replace q4:=bT q4 q9;clear q9;cases best with
       |none=>
        have HC2:Hid (R=helpsGo b true (j+1) (some (j,v)) (lt.drop (j+1)) (b.free.drop (j+1))):=by
         show _=_;rw[HC.out];rfl
        simp only[bestV];go_wp2_with fail;go_roundg (b.free.length-(j+1))
        case measure=>omega
        case rel=>exact⟨j+1,some (j,v),rfl,by omega,by simp,rfl,HC2.out,(by rw[←HVG.out];exact BestOk.new),bT hbl q4⟩
       |some p=>
        obtain⟨i',u⟩:=p;simp only[bestV];obtain⟨hi',Li⟩:=HBe i' u rfl;have u1:=H2 _ q4;have u2:=Li _ q4;have d2:decide ((i':Int)<0)=false:=dF (by omega);by_cases hvu:v<u
        ·have d3:decide ((v:Int)<(u:Int))=true:=dT (by omega);have HC2:Hid (R=helpsGo b true (j+1) (some (j,v)) (lt.drop (j+1)) (b.free.drop (j+1))):=by
          show _=_;rw[HC.out];simp[lessB,hvu,helpS]
         go_wp2_with fail;go_roundg (b.free.length-(j+1))
         case measure=>omega
         case rel=>exact⟨j+1,some (j,v),rfl,by omega,by simp,rfl,HC2.out,(by rw[←HVG.out];exact BestOk.new),bT hbl q4⟩
        ·have d3:decide ((v:Int)<(u:Int))=false:=dF (by omega);have HC2:Hid (R=helpsGo b true (j+1) (some (i',u)) (lt.drop (j+1)) (b.free.drop (j+1))):=by
          show _=_;rw[HC.out];simp[lessB,hvu,helpS]
         go_wp2_with fail;go_roundg (b.free.length-(j+1))
         case measure=>omega
         case rel=>exact⟨j+1,some (i',u),rfl,by omega,by simp,rfl,HC2.out,(BestOk.up HO2.out),bT hbl q4⟩
      |false=>
       go_wp2_with fail;refine(HR1.out _ q4).mono ?_;rintro e w3 ⟨rfl,q9⟩;replace q4:=bT q4 q9;clear q9;have HC2:Hid (R=helpsGo b true (j+1) best (lt.drop (j+1)) (b.free.drop (j+1))):=by
        show _=_;rw[HC.out];simp[helpS]
       go_wp2_with fail;go_roundg (b.free.length-(j+1))
       case measure=>omega
       case rel=>exact⟨j+1,best,rfl,by omega,by simp,rfl,HC2.out,(BestOk.up HO2.out),bT hbl q4⟩
     |false=>
      go_wp2_with fail;refine(HF1.out _ q4).mono ?_;rintro e w2 ⟨rfl,q9⟩;replace q4:=bT q4 q9;clear q9;cases B1 with
      |true=>
       go_wp2_with fail;refine(HR1.out _ q4).mono ?_;rintro e w3 ⟨rfl,q9⟩;replace q4:=bT q4 q9;clear q9;cases best with
       |none=>
        have HC2:Hid (R=helpsGo b true (j+1) (some (j,v)) (lt.drop (j+1)) (b.free.drop (j+1))):=by
         show _=_;rw[HC.out];rfl
        simp only[bestV];go_wp2_with fail;go_roundg (b.free.length-(j+1))
        case measure=>omega
        case rel=>exact⟨j+1,some (j,v),rfl,by omega,by simp,rfl,HC2.out,(by rw[←HVG.out];exact BestOk.new),bT hbl q4⟩
       |some p=>
        obtain⟨i',u⟩:=p;simp only[bestV];obtain⟨hi',Li⟩:=HBe i' u rfl;have u1:=H2 _ q4;have u2:=Li _ q4;have d2:decide ((i':Int)<0)=false:=dF (by omega);by_cases hvu:v<u
        ·have d3:decide ((v:Int)<(u:Int))=true:=dT (by omega);have HC2:Hid (R=helpsGo b true (j+1) (some (j,v)) (lt.drop (j+1)) (b.free.drop (j+1))):=by
          show _=_;rw[HC.out];simp[lessB,hvu,helpS]
         go_wp2_with fail;go_roundg (b.free.length-(j+1))
         case measure=>omega
         case rel=>exact⟨j+1,some (j,v),rfl,by omega,by simp,rfl,HC2.out,(by rw[←HVG.out];exact BestOk.new),bT hbl q4⟩
        ·have d3:decide ((v:Int)<(u:Int))=false:=dF (by omega);have HC2:Hid (R=helpsGo b true (j+1) (some (i',u)) (lt.drop (j+1)) (b.free.drop (j+1))):=by
          show _=_;rw[HC.out];simp[lessB,hvu,helpS]
         go_wp2_with fail;go_roundg (b.free.length-(j+1))
         case measure=>omega
         case rel=>exact⟨j+1,some (i',u),rfl,by omega,by simp,rfl,HC2.out,(BestOk.up HO2.out),bT hbl q4⟩
      |false=>
       go_wp2_with fail;refine(HR1.out _ q4).mono ?_;rintro e w3 ⟨rfl,q9⟩;replace q4:=bT q4 q9;clear q9;have HC2:Hid (R=helpsGo b true (j+1) best (lt.drop (j+1)) (b.free.drop (j+1))):=by
        show _=_;rw[HC.out];simp[helpS]
       go_wp2_with fail;go_roundg (b.free.length-(j+1))
       case measure=>omega
       case rel=>exact⟨j+1,best,rfl,by omega,by simp,rfl,HC2.out,(BestOk.up HO2.out),bT hbl q4⟩
   ·cases up with
    |false=>
     cases B1 with
     |true=>
      go_wp2_with fail;refine(HR1.out _ q4).mono ?_;rintro e w2 ⟨rfl,q9⟩;replace q4:=bT q4 q9;clear q9;cases best with
      |none=>
       have HC2:Hid (R=helpsGo b false (j+1) (some (j,v)) (lt.drop (j+1)) (b.free.drop (j+1))):=by
        show _=_;rw[HC.out];rfl
       simp only[bestV];go_wp2_with fail;go_roundg (b.free.length-(j+1))
       case measure=>omega
       case rel=>exact⟨j+1,some (j,v),rfl,by omega,by simp,rfl,HC2.out,(by rw[←HVG.out];exact BestOk.new),bT hbl q4⟩
      |some p=>
       obtain⟨i',u⟩:=p;simp only[bestV];obtain⟨hi',Li⟩:=HBe i' u rfl;have u1:=H2 _ q4;have u2:=Li _ q4;have d2:decide ((i':Int)<0)=false:=dF (by omega);by_cases hvu:v<u
       ·have d3:decide ((v:Int)<(u:Int))=true:=dT (by omega);have HC2:Hid (R=helpsGo b false (j+1) (some (j,v)) (lt.drop (j+1)) (b.free.drop (j+1))):=by
         show _=_;rw[HC.out];simp[lessB,hvu,helpS]
        go_wp2_with fail;go_roundg (b.free.length-(j+1))
        case measure=>omega
        case rel=>exact⟨j+1,some (j,v),rfl,by omega,by simp,rfl,HC2.out,(by rw[←HVG.out];exact BestOk.new),bT hbl q4⟩
       ·have d3:decide ((v:Int)<(u:Int))=false:=dF (by omega);have HC2:Hid (R=helpsGo b false (j+1) (some (i',u)) (lt.drop (j+1)) (b.free.drop (j+1))):=by
         show _=_;rw[HC.out];simp[lessB,hvu,helpS]
        go_wp2_with fail;go_roundg (b.free.length-(j+1))
        case measure=>omega
        case rel=>exact⟨j+1,some (i',u),rfl,by omega,by simp,rfl,HC2.out,(BestOk.up HO2.out),bT hbl q4⟩
     |false=>
      go_wp2_with fail;refine(HR1.out _ q4).mono ?_;rintro e w2 ⟨rfl,q9⟩;replace q4:=bT q4 q9;clear q9;have HC2:Hid (R=helpsGo b false (j+1) best (lt.drop (j+1)) (b.free.drop (j+1))):=by
       show _=_;rw[HC.out];simp[helpS]
      go_wp2_with fail;go_roundg (b.free.length-(j+1))
      case measure=>omega
      case rel=>exact⟨j+1,best,rfl,by omega,by simp,rfl,HC2.out,(BestOk.up HO2.out),bT hbl q4⟩
    |true=>
     cases B1 with
     |true=>
      go_wp2_with fail;refine(HR1.out _ q4).mono ?_;rintro e w2 ⟨rfl,q9⟩;replace q4:=bT q4 q9;clear q9;cases B2 with
      |true=>
       go_wp2_with fail;refine(HF1.out _ q4).mono ?_;rintro e w3 ⟨rfl,q9⟩;replace q4:=bT q4 q9;clear q9;cases best with
       |none=>
        have HC2:Hid (R=helpsGo b true (j+1) (some (j,v)) (lt.drop (j+1)) (b.free.drop (j+1))):=by
         show _=_;rw[HC.out];rfl
        simp only[bestV];go_wp2_with fail;go_roundg (b.free.length-(j+1))
        case measure=>omega
        case rel=>exact⟨j+1,some (j,v),rfl,by omega,by simp,rfl,HC2.out,(by rw[←HVG.out];exact BestOk.new),bT hbl q4⟩
       |some p=>
        obtain⟨i',u⟩:=p;simp only[bestV];obtain⟨hi',Li⟩:=HBe i' u rfl;have u1:=H2 _ q4;have u2:=Li _ q4;have d2:decide ((i':Int)<0)=false:=dF (by omega);by_cases hvu:v<u
        ·have d3:decide ((v:Int)<(u:Int))=true:=dT (by omega);have HC2:Hid (R=helpsGo b true (j+1) (some (j,v)) (lt.drop (j+1)) (b.free.drop (j+1))):=by
          show _=_;rw[HC.out];simp[lessB,hvu,helpS]
         go_wp2_with fail;go_roundg (b.free.length-(j+1))
         case measure=>omega
         case rel=>exact⟨j+1,some (j,v),rfl,by omega,by simp,rfl,HC2.out,(by rw[←HVG.out];exact BestOk.new),bT hbl q4⟩
        ·have d3:decide ((v:Int)<(u:Int))=false:=dF (by omega);have HC2:Hid (R=helpsGo b true (j+1) (some (i',u)) (lt.drop (j+1)) (b.free.drop (j+1))):=by
          show _=_;rw[HC.out];simp[lessB,hvu,helpS]
         go_wp2_with fail;go_roundg (b.free.length-(j+1))
         case measure=>omega
         case rel=>exact⟨j+1,some (i',u),rfl,by omega,by simp,rfl,HC2.out,(BestOk.up HO2.out),bT hbl q4⟩
      |false=>
       go_wp2_with fail;refine(HF1.out _ q4).mono ?_;rintro e w3 ⟨rfl,q9⟩;replace q4:=bT q4 q9;clear q9;have HC2:Hid (R=helpsGo b true (j+1) best (lt.drop (j+1)) (b.free.drop (j+1))):=by
        show _=_;rw[HC.out];simp[helpS]
       go_wp2_with fail;go_roundg (b.free.length-(j+1))
       case measure=>omega
       case rel=>exact⟨j+1,best,rfl,by omega,by simp,rfl,HC2.out,(BestOk.up HO2.out),bT hbl q4⟩
     |false=>
      go_wp2_with fail;refine(HR1.out _ q4).mono ?_;rintro e w2 ⟨rfl,q9⟩;replace q4:=bT q4 q9;clear q9;cases B2 with
      |true=>
       go_wp2_with fail;refine(HF1.out _ q4).mono ?_;rintro e w3 ⟨rfl,q9⟩;replace q4:=bT q4 q9;clear q9;cases best with
       |none=>
        have HC2:Hid (R=helpsGo b true (j+1) (some (j,v)) (lt.drop (j+1)) (b.free.drop (j+1))):=by
         show _=_;rw[HC.out];rfl
        simp only[bestV];go_wp2_with fail;go_roundg (b.free.length-(j+1))
        case measure=>omega
        case rel=>exact⟨j+1,some (j,v),rfl,by omega,by simp,rfl,HC2.out,(by rw[←HVG.out];exact BestOk.new),bT hbl q4⟩
       |some p=>
        obtain⟨i',u⟩:=p;simp only[bestV];obtain⟨hi',Li⟩:=HBe i' u rfl;have u1:=H2 _ q4;have u2:=Li _ q4;have d2:decide ((i':Int)<0)=false:=dF (by omega);by_cases hvu:v<u
        ·have d3:decide ((v:Int)<(u:Int))=true:=dT (by omega);have HC2:Hid (R=helpsGo b true (j+1) (some (j,v)) (lt.drop (j+1)) (b.free.drop (j+1))):=by
          show _=_;rw[HC.out];simp[lessB,hvu,helpS]
         go_wp2_with fail;go_roundg (b.free.length-(j+1))
         case measure=>omega
         case rel=>exact⟨j+1,some (j,v),rfl,by omega,by simp,rfl,HC2.out,(by rw[←HVG.out];exact BestOk.new),bT hbl q4⟩
        ·have d3:decide ((v:Int)<(u:Int))=false:=dF (by omega);have HC2:Hid (R=helpsGo b true (j+1) (some (i',u)) (lt.drop (j+1)) (b.free.drop (j+1))):=by
          show _=_;rw[HC.out];simp[lessB,hvu,helpS]
         go_wp2_with fail;go_roundg (b.free.length-(j+1))
         case measure=>omega
         case rel=>exact⟨j+1,some (i',u),rfl,by omega,by simp,rfl,HC2.out,(BestOk.up HO2.out),bT hbl q4⟩
      |false=>
       go_wp2_with fail;refine(HF1.out _ q4).mono ?_;rintro e w3 ⟨rfl,q9⟩;replace q4:=bT q4 q9;clear q9;have HC2:Hid (R=helpsGo b true (j+1) best (lt.drop (j+1)) (b.free.drop (j+1))):=by
        show _=_;rw[HC.out];simp[helpS]
       go_wp2_with fail;go_roundg (b.free.length-(j+1))
       case measure=>omega
       case rel=>exact⟨j+1,best,rfl,by omega,by simp,rfl,HC2.out,(BestOk.up HO2.out),bT hbl q4⟩
   ·cases up with
    |false=>
     have HC2:Hid (R=helpsGo b false (j+1) best (lt.drop (j+1)) (b.free.drop (j+1))):=by
      show _=_;rw[HC.out];simp[helpS]
     go_wp2_with fail;go_roundg (b.free.length-(j+1))
     case measure=>omega
     case rel=>exact⟨j+1,best,rfl,by omega,by simp,rfl,HC2.out,(BestOk.up HO2.out),bT hbl q4⟩
    |true=>
     have HC2:Hid (R=helpsGo b true (j+1) best (lt.drop (j+1)) (b.free.drop (j+1))):=by
      show _=_;rw[HC.out];simp[helpS]
     go_wp2_with fail;go_roundg (b.free.length-(j+1))
     case measure=>omega
     case rel=>exact⟨j+1,best,rfl,by omega,by simp,rfl,HC2.out,(BestOk.up HO2.out),bT hbl q4⟩
  ·have d1:decide ((j:Int)<(b.free.length:Int))=false:=dF (by omega);have hlt2:¬j<lt.length:=by omega
   have HC2:Hid (R=best):=by
    show _=_;rw[HL.out,drop_none hlt,drop_none hlt2];rfl
   clear HT HW;cases best with
   |none=>
    simp only[bestV];go_wp2_with fail;exact bodyPost_ret (v:= .int .i64 (-1)) (by simp[results,Tryz.results180,go_sem]) rfl ⟨by rw[HC2.out];rfl,hbl⟩
   |some p=>
    obtain⟨i',u⟩:=p;simp only[bestV];go_wp2_with fail;exact bodyPost_ret (v:= .int .i64 (i':Nat)) (by simp[results,Tryz.results180,go_sem]) rfl ⟨by rw[HC2.out];rfl,hbl⟩
end Go.Proofs.YtecfcjdgmpopjaaGreat

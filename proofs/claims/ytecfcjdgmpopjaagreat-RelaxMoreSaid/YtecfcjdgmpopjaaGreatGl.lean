/-
  Joined texts: Hd, Hk, Hl, Hm, Hn, Ho, Gj, Gk, Gl.
-/
import Derived.Test.YtecfcjdgmpopjaaGreatHc
import Derived.BigQuiet
import Derived.Test.YtecfcjdgmpopjaaGreatGi
set_option linter.unusedSimpArgs false
set_option linter.unusedVariables false
namespace Go.Proofs.YtecfcjdgmpopjaaGreat
open Go.RowKit Num
theorem below_dr {B:Nat}{a w:World}(h:Below B a w)(n:Nat):Below B a (w.drewN n):=h.trans ⟨rfl,rfl,rfl,Nat.le_refl _,fun _ _=>rfl⟩
theorem RRow.blk1 {w:World}{g:Nat}{t:TypeId}{a b:Int}(h:Blk w g t #[.int .i64 a,.int .i64 b]):RRow w (some ⟨g,0,none⟩) [(a,b)]:=fun i hi=>by
 match i,hi with
 |0,_=>exact⟨g,0,rfl,(h.cell 0).trans rfl⟩
 |1,_=>exact⟨g,0,rfl,(h.cell 1).trans rfl⟩
set_option maxHeartbeats 8000000
set_option maxRecDepth 100000
theorem counts_any (rule sx sa:Int)(has:Bool)(bits:Int)(hs:0≤sx∧sx≤10){x a:Nat}(hx:x≤1000000)(ha:a≤1000000)(w:World):Calls Tryz.prog 192 #[.agg #[iw rule,iw sx,iw sa,.bool has,iw bits],.int .i64 (x:Nat),.int .i64 (a:Nat)] w fun e w'=>e= .returned (.bool (countsB ⟨rule,sx,sa,has,bits⟩ x a))∧Below w.heap.size w w':=by
 have M:=(Mem.start w).new 202 #[iw rule,iw sx,iw sa,.bool has,iw bits];obtain⟨f0,f1,f2,f3,f4⟩:=(M.k (i:=0) rfl).fiveS;have HM:=ZH M.bel;clear M;unfold countsB;dsimp only;by_cases r0:rule=0
 ·rw[if_pos r0];subst r0;by_cases h1:(x:Int)=sx
  ·have d1:((x:Int)==sx)=true:=beq_iff_eq.2 h1;rw[dT h1,Bool.true_and];go_enter Tryz.func192,Tryz.ntmps192;go_wp2_with fail;exact bodyPost_ret (v:= .bool (decide ((a:Int)=sa))) (by simp[results,Tryz.results192,go_sem];rfl) rfl ⟨rfl,HM.out⟩
  ·have d1:((x:Int)==sx)=false:=beq_false_of_ne h1;rw[dF h1,Bool.false_and];go_enter Tryz.func192,Tryz.ntmps192;go_wp2_with fail;exact bodyPost_ret (v:= .bool false) (by simp[results,Tryz.results192,go_sem]) rfl ⟨rfl,HM.out⟩
 ·have q0:(rule==0)=false:=beq_false_of_ne r0;rw[if_neg r0];by_cases r1:rule=1
  ·rw[if_pos r1];subst r1;have x1:IntKind.i64.wrap ((a:Int)+sx)=(a:Int)+sx:=by rw[IntKind.wrap_i64];omega
   go_enter Tryz.func192,Tryz.ntmps192;go_wp2_with fail;exact bodyPost_ret (v:= .bool (decide ((x:Int)=(a:Int)+sx))) (by simp[results,Tryz.results192,go_sem];rfl) rfl ⟨rfl,HM.out⟩
  ·have q1:(rule==1)=false:=beq_false_of_ne r1;rw[if_neg r1];by_cases r2:rule=2
   ·rw[if_pos r2];subst r2;by_cases h1:sx≤(x:Int)
    ·have d1:decide (sx≤(x:Int))=true:=dT h1;rw[d1,Bool.true_and];go_enter Tryz.func192,Tryz.ntmps192;go_wp2_with fail;exact bodyPost_ret (v:= .bool (decide ((a:Int)=sa))) (by simp[results,Tryz.results192,go_sem];rfl) rfl ⟨rfl,HM.out⟩
    ·have d1:decide (sx≤(x:Int))=false:=dF h1;rw[d1,Bool.false_and];go_enter Tryz.func192,Tryz.ntmps192;go_wp2_with fail;exact bodyPost_ret (v:= .bool false) (by simp[results,Tryz.results192,go_sem]) rfl ⟨rfl,HM.out⟩
   ·have q2:(rule==2)=false:=beq_false_of_ne r2;rw[if_neg r2];by_cases r3:rule=3
    ·rw[if_pos r3];subst r3;by_cases h1:(x:Int)=sx
     ·have d1:((x:Int)==sx)=true:=beq_iff_eq.2 h1;rw[dT h1,Bool.true_and];by_cases h2:1≤(a:Int)
      ·have d2:decide (1≤(a:Int))=true:=dT h2;rw[d2,Bool.true_and];go_enter Tryz.func192,Tryz.ntmps192;go_wp2_with fail;exact bodyPost_ret (v:= .bool (decide ((a:Int)≤64))) (by simp[results,Tryz.results192,go_sem]) rfl ⟨rfl,HM.out⟩
      ·have d2:decide (1≤(a:Int))=false:=dF h2;rw[d2,Bool.false_and];go_enter Tryz.func192,Tryz.ntmps192;go_wp2_with fail;exact bodyPost_ret (v:= .bool false) (by simp[results,Tryz.results192,go_sem]) rfl ⟨rfl,HM.out⟩
     ·have d1:((x:Int)==sx)=false:=beq_false_of_ne h1;rw[dF h1,Bool.false_and];go_enter Tryz.func192,Tryz.ntmps192;go_wp2_with fail;exact bodyPost_ret (v:= .bool false) (by simp[results,Tryz.results192,go_sem]) rfl ⟨rfl,HM.out⟩
    ·have q3:(rule==3)=false:=beq_false_of_ne r3;rw[if_neg r3];have x1:IntKind.i64.wrap (2*(x:Int))=2*(x:Int):=by rw[IntKind.wrap_i64];omega
     go_enter Tryz.func192,Tryz.ntmps192;go_wp2_with fail;exact bodyPost_ret (v:= .bool (decide ((a:Int)=2*(x:Int)))) (by simp[results,Tryz.results192,go_sem];rfl) rfl ⟨rfl,HM.out⟩
theorem shape_x {k:Int}{s:Shp}(h:shapeOf k=some s):0≤s.x∧s.x≤10:=by
 unfold shapeOf at h;repeat' split at h
 all_goals first|(cases h;decide)|cases h
theorem f1_run (args:Array Value)(w:World):Sem.run Tryz.prog (callFunc 193 args) w= .ok (.enter 193 args) w:=by kernel_rfl
theorem f2_run (args:Array Value)(w:World):Sem.run Tryz.prog (callFunc 194 args) w= .ok (.enter 194 args) w:=by kernel_rfl
theorem f1_any (z:Int)(w:World):Calls Tryz.prog 193 #[.int .i64 z] w fun e w'=>e= .returned (.bool (!unitB z))∧Below w.heap.size w w':=by
 by_cases h1:z=1
 ·have d1:(z !=1)=false:=by rw[h1];rfl
  have hu:unitB z=true:=by rw[h1];rfl
  rw[hu];go_enter Tryz.func193,Tryz.ntmps193;go_wp2_with fail;exact bodyPost_ret (v:= .bool false) (by simp[results,Tryz.results193,go_sem]) rfl ⟨rfl,Below.refl _ _⟩
 ·have d1:(z !=1)=true:=bne_iff_ne.2 h1;have hu:unitB z=(z== -1):=by
   unfold unitB;rw[beq_false_of_ne h1,Bool.false_or]
  rw[hu];go_enter Tryz.func193,Tryz.ntmps193;go_wp2_with fail;exact bodyPost_ret (v:= .bool (z != -1)) (by simp[results,Tryz.results193,go_sem]) rfl ⟨rfl,Below.refl _ _⟩
theorem f2_any (z:Int)(w:World):Calls Tryz.prog 194 #[.int .i64 z] w fun e w'=>e= .returned (.bool (decide (z<0)))∧Below w.heap.size w w':=by
 go_enter Tryz.func194,Tryz.ntmps194;go_wp2_with fail;exact bodyPost_ret (v:= .bool (decide (z<0))) (by simp[results,Tryz.results194,go_sem]) rfl ⟨rfl,Below.refl _ _⟩
theorem any_unit (l:List Int):(!(l.any fun z=> !unitB z))=l.all unitB:=by
 induction l with
 |nil=>rfl
 |cons z l ih=>
  rw[List.any_cons,List.all_cons,←ih];cases unitB z<;>rfl
theorem any_neg (l:List Int):(!(l.any fun z=>decide (z<0)))=l.all fun a=>decide (0≤a):=by
 induction l with
 |nil=>rfl
 |cons z l ih=>
  rw[List.any_cons,List.all_cons,←ih];by_cases h:z<0
  ·rw[dT h,dF (show ¬0≤z by omega)];rfl
  ·rw[dF h,dT (show 0≤z by omega)];rfl
theorem formed_any {w:World}{x a:Adr}{c:Cn}(h:CnAt w x a c)(hx:c.x.length≤1000)(ha:c.a.length≤1000):Calls Tryz.prog 158 #[.agg (cnC x a c)] w fun e w'=>e= .returned (.bool (formedB c))∧Below w.heap.size w w':=by
 have HA:=ZH h.a;have M:=(Mem.start w).new 69 (cnC x a c);obtain⟨p0,p1,p2,p3⟩:=(M.k (i:=0) rfl).four;obtain⟨k,X,A,C⟩:=c;replace hx:X.length≤1000:=hx;replace ha:A.length≤1000:=ha;clear h;cases hs:shapeOf k with
 |none=>
  have hf:formedB ⟨k,X,A,C⟩=false:=by unfold formedB;rw[hs]
  have HS:Hid (∀w,Calls Tryz.prog 157 #[.int .i64 k] w fun e w'=>e= .returned (.tuple #[.agg #[iw 0,iw 0,iw 0,.bool false,iw 0],.bool false])∧Below w.heap.size w w'):=fun w=>by
   have:=shapes_any k w;rw[hs]at this;exact this
  rw[hf];clear hs hf;go_enter Tryz.func158,Tryz.ntmps158;go_wp2_with fail;refine(HS.out _).mono ?_;rintro e w1 ⟨rfl,q1⟩;replace M:=M.below q1;have HM:=ZH (M.new 202 #[iw 0,iw 0,iw 0,.bool false,iw 0]);clear p0 p1 p2 p3 q1 HS M;obtain⟨p0,p1,p2,p3⟩:=(HM.out.k (i:=1) rfl).four;obtain⟨s0,s1,s2,s3,s4⟩:=(HM.out.k (i:=0) rfl).fiveS;go_wp2_with fail;exact bodyPost_ret (v:= .bool false) (by simp[results,Tryz.results158,go_sem]) rfl ⟨rfl,HM.out.bel⟩
 |some s=>
  have hsx:=shape_x hs;obtain⟨rule,sx,sa,has,bits⟩:=s;replace hsx:0≤sx∧sx≤10:=hsx;have HS:Hid (∀w,Calls Tryz.prog 157 #[.int .i64 k] w fun e w'=>e= .returned (.tuple #[.agg #[iw rule,iw sx,iw sa,.bool has,iw bits],.bool true])∧Below w.heap.size w w'):=fun w=>by
   have:=shapes_any k w;rw[hs]at this;exact this
  obtain⟨CB,hCB⟩:∃b,countsB ⟨rule,sx,sa,has,bits⟩ X.length A.length=b:=⟨_,rfl⟩;have HC:Hid (∀w,Calls Tryz.prog 192 #[.agg #[iw rule,iw sx,iw sa,.bool has,iw bits],.int .i64 (X.length:Nat),.int .i64 (A.length:Nat)] w fun e w'=>e= .returned (.bool CB)∧Below w.heap.size w w'):=fun w=>by
   rw[←hCB];exact counts_any rule sx sa has bits hsx (by omega) (by omega) w
  obtain⟨F,hF⟩:∃F,formedB ⟨k,X,A,C⟩=F:=⟨_,rfl⟩;have HF:Hid (F=(CB&&(if k=11 then A.all unitB else if k=19 then decide (0≤C)&&A.all (fun a=>decide (0≤a)) else true))):=by
   show F=_;rw[←hF];unfold formedB;rw[hs];show(countsB ⟨rule,sx,sa,has,bits⟩ X.length A.length&&_)=_;rw[hCB]
  rw[hF];clear hs hF hCB;go_enter Tryz.func158,Tryz.ntmps158;go_wp2_with fail;refine(HS.out _).mono ?_;rintro e w1 ⟨rfl,q1⟩;replace M:=M.below q1;have HM:=ZH (M.new 202 #[iw rule,iw sx,iw sa,.bool has,iw bits]);clear p0 p1 p2 p3 q1 HS M;obtain⟨p0,p1,p2,p3⟩:=(HM.out.k (i:=1) rfl).four;obtain⟨s0,s1,s2,s3,s4⟩:=(HM.out.k (i:=0) rfl).fiveS;go_wp2_with fail;refine(HC.out _).mono ?_;rintro e w2 ⟨rfl,q2⟩;have HM2:=ZH (HM.out.below q2);clear p0 p1 p2 p3 s0 s1 s2 s3 s4 q2 HM HC;obtain⟨p0,p1,p2,p3⟩:=(HM2.out.k (i:=1) rfl).four;have HA2:=ZH (HA.out.below HM2.out.bel);have HBB:=ZH HM2.out.bel;cases CB with
  |false=>
   have HE:Hid (F=false):=HF.out;go_wp2_with fail;exact bodyPost_ret (v:= .bool false) (by simp[results,Tryz.results158,go_sem]) rfl ⟨by rw[HE.out],HBB.out⟩
  |true=>
   by_cases k1:k=11
   ·have HE:Hid (F=A.all unitB):=HF.out.trans (by rw[if_pos k1];rfl);have d1:(k==11)=true:=beq_iff_eq.2 k1;clear HF k1;go_wp2_with fail;refine(contains_any (P:=fun z=> !unitB z) HA2.out (by omega) f1_run fun z w'=>f1_any z w').mono ?_;rintro e w3 ⟨rfl,q3⟩;have HQ:=ZH (bT HBB.out q3);have HE2:Hid (F= !(A.any fun z=> !unitB z)):=HE.out.trans (any_unit A).symm;generalize (A.any fun z=> !unitB z)=R at*;go_wp2_with fail;exact bodyPost_ret (v:= .bool (!R)) (by simp[results,Tryz.results158,go_sem]) rfl ⟨by rw[HE2.out],HQ.out⟩
   ·have d1:(k==11)=false:=beq_false_of_ne k1;by_cases k2:k=19
    ·have HE:Hid (F=(decide (0≤C)&&A.all (fun a=>decide (0≤a)))):=HF.out.trans (by rw[if_neg k1,if_pos k2];rfl);have d2:(k==19)=true:=beq_iff_eq.2 k2;clear HF k1 k2;by_cases hc:0≤C
     ·have d3:decide (0≤C)=true:=dT hc;go_wp2_with fail;refine(contains_any (P:=fun z=>decide (z<0)) HA2.out (by omega) f2_run fun z w'=>f2_any z w').mono ?_;rintro e w3 ⟨rfl,q3⟩;have HQ:=ZH (bT HBB.out q3);have HE2:Hid (F= !(A.any fun z=>decide (z<0))):=HE.out.trans (by rw[dT hc,Bool.true_and,any_neg]);generalize (A.any fun z=>decide (z<0))=R at*;go_wp2_with fail;exact bodyPost_ret (v:= .bool (!R)) (by simp[results,Tryz.results158,go_sem]) rfl ⟨by rw[HE2.out],HQ.out⟩
     ·have d3:decide (0≤C)=false:=dF hc;have HE2:Hid (F=false):=HE.out.trans (by rw[dF hc];rfl);go_wp2_with fail;exact bodyPost_ret (v:= .bool false) (by simp[results,Tryz.results158,go_sem]) rfl ⟨by rw[HE2.out],HBB.out⟩
    ·have HE:Hid (F=true):=HF.out.trans (by rw[if_neg k1,if_neg k2];rfl);have d2:(k==19)=false:=beq_false_of_ne k2;go_wp2_with fail;exact bodyPost_ret (v:= .bool true) (by simp[results,Tryz.results158,go_sem]) rfl ⟨by rw[HE.out],HBB.out⟩
set_option maxHeartbeats 16000000
theorem places_step (doms:List (List (Int×Int)))(bits:Int):∀(X:List Int)(j:Nat),j<X.length→placesB doms bits (X.drop j)=(placeB doms (decide (bits=2)||(decide (bits=1)&&decide (j+1=X.length))) (X.getD j 0)&&placesB doms bits (X.drop (j+1)))
 |[],j,h=>absurd h (Nat.not_lt_zero _)
 |[x],0,_=>by
  show placeB doms (decide (bits=2)||decide (bits=1)) x=(placeB doms (decide (bits=2)||(decide (bits=1)&&decide (0+1=1))) x&&true);rw[dT (show 0+1=1 by rfl),Bool.and_true,Bool.and_true]
 |[x],j+1,h=>by simp at h
 |x::y::l,0,_=>by
  show(placeB doms (decide (bits=2)) x&&placesB doms bits (y::l))=(placeB doms (decide (bits=2)||(decide (bits=1)&&decide (0+1=(x::y::l).length))) x&&placesB doms bits (y::l));rw[dF (show ¬0+1=(x::y::l).length by simp),Bool.and_false,Bool.or_false]
 |x::y::l,j+1,h=>by
  have:=places_step doms bits (y::l) j (by simpa using h);show placesB doms bits ((y::l).drop j)=(placeB doms (decide (bits=2)||(decide (bits=1)&&decide (j+1+1=(x::y::l).length))) ((y::l).getD j 0)&&placesB doms bits ((y::l).drop (j+1)));rw[this];have e:decide (j+1=(y::l).length)=decide (j+1+1=(x::y::l).length):=decide_eq_decide.2 (by simp);rw[e]
theorem m1_run (args:Array Value)(w:World):Sem.run Tryz.prog (callFunc 160 args) w= .ok (.enter 160 args) w:=by kernel_rfl
theorem m1_any (z:Int)(w:World):Calls Tryz.prog 160 #[.int .i64 z] w fun e w'=>e= .returned (.bool (!withinB z))∧Below w.heap.size w w':=by
 go_enter Tryz.func160,Tryz.ntmps160;go_wp2_with fail;refine(mwithin (z:=z) rfl).mono ?_;rintro e w1 ⟨rfl,q1⟩;go_wp2_with fail;exact bodyPost_ret (v:= .bool (!withinB z)) (by simp[results,Tryz.results160,go_sem]) rfl ⟨rfl,q1⟩
theorem any_within (l:List Int):(!(l.any fun z=> !withinB z))=l.all withinB:=by
 induction l with
 |nil=>rfl
 |cons z l ih=>
  rw[List.any_cons,List.all_cons,←ih];cases withinB z<;>rfl
theorem place_neg {doms:List (List (Int×Int))}{b:Bool}{z:Int}(h:z<0):placeB doms b z=false:=by
 unfold placeB;rw[dF (show ¬0≤z by omega)];rfl
theorem place_out {doms:List (List (Int×Int))}{b:Bool}{n:Nat}(h:¬n<doms.length):placeB doms b (n:Int)=false:=by
 unfold placeB;rw[show((n:Int)).toNat=n from rfl,List.getElem?_eq_none (by omega)];exact Bool.and_false _
theorem place_in {doms:List (List (Int×Int))}{b:Bool}{n:Nat}(h:n<doms.length):placeB doms b (n:Int)=(!b||truthB (doms.getD n [])):=by
 unfold placeB;rw[show((n:Int)).toNat=n from rfl,gG h,dT (show(0:Int)≤(n:Int) by omega),gE,gG h];rfl
theorem may_any {w:World}{a:Mp}{m:Md}{x aa:Adr}{c:Cn}(hd:DsAt w a.doms.1 a.ds m.doms)(hdl:m.doms.length≤1000)(hdz:∀i,i<m.doms.length→(m.doms.getD i []).length≤1000)(h:CnAt w x aa c)(hx:c.x.length≤1000)(ha:c.a.length≤1000):Calls Tryz.prog 105 #[.agg (mdC a m),.agg (cnC x aa c)] w fun e w'=>e= .returned (.bool (mayC m.doms c))∧Below w.heap.size w w':=by
 have HD:=ZH hd;have HA:=ZH h.a;have HX:=ZH h.x;have HFM:=ZH (fun(w':World)(q:Below w.heap.size w w')=>formed_any (h.below q) hx ha);have HDZ:=ZH hdz;have M:=((Mem.start w).new 25 (mdC a m)).newAt (g:=w.heap.size+1) (by simp) 69 (cnC x aa c);obtain⟨m0,m1,m2,m3⟩:=(M.k (i:=1) rfl).four;obtain⟨p0,p1,p2,p3⟩:=(M.k (i:=0) rfl).four;obtain⟨k,X,A,C⟩:=c;replace hx:X.length≤1000:=hx;replace ha:A.length≤1000:=ha;clear h hd hdz;obtain⟨F,hF⟩:∃F,mayC m.doms ⟨k,X,A,C⟩=F:=⟨_,rfl⟩;obtain⟨FB,hFB⟩:∃b,formedB ⟨k,X,A,C⟩=b:=⟨_,rfl⟩;rw[hFB]at HFM;cases hs:shapeOf k with
 |none=>
  have hfb:FB=false:=by rw[←hFB];unfold formedB;rw[hs]
  subst hfb;have HE:Hid (F=false):=by
   show F=_;rw[←hF];unfold mayC;rw[hFB];rfl
  have HS:Hid (∀w,Calls Tryz.prog 157 #[.int .i64 k] w fun e w'=>e= .returned (.tuple #[.agg #[iw 0,iw 0,iw 0,.bool false,iw 0],.bool false])∧Below w.heap.size w w'):=fun w=>by
   have:=shapes_any k w;rw[hs]at this;exact this
  rw[hF];clear hs hF hFB;go_enter Tryz.func105,Tryz.ntmps105;go_wp2_with fail;refine(HS.out _).mono ?_;rintro e w1 ⟨rfl,q1⟩;replace M:=M.below q1;have HM:=ZH (M.new 202 #[iw 0,iw 0,iw 0,.bool false,iw 0]);clear p0 p1 p2 p3 m0 m1 m2 m3 q1 HS M;obtain⟨p0,p1,p2,p3⟩:=(HM.out.k (i:=1) rfl).four;go_wp2_with fail;refine(HFM.out _ HM.out.bel).mono ?_;rintro e w2 ⟨rfl,q2⟩;have HBB:=ZH (bT HM.out.bel q2);go_wp2_with fail;exact bodyPost_ret (v:= .bool false) (by simp[results,Tryz.results105,go_sem]) rfl ⟨by rw[HE.out],HBB.out⟩
 |some s=>
  obtain⟨rule,sx,sa,has,bits⟩:=s;have HS:Hid (∀w,Calls Tryz.prog 157 #[.int .i64 k] w fun e w'=>e= .returned (.tuple #[.agg #[iw rule,iw sx,iw sa,.bool has,iw bits],.bool true])∧Below w.heap.size w w'):=fun w=>by
   have:=shapes_any k w;rw[hs]at this;exact this
  have HF:Hid (F=(FB&&(decide (X.length≤32)&&(withinB C&&((decide (C=0)||has)&&(placesB m.doms bits X&&A.all withinB)))))):=by
   show F=_;rw[←hF];unfold mayC;rw[hFB,hs]
  rw[hF];clear hs hF hFB;go_enter Tryz.func105,Tryz.ntmps105;go_wp2_with fail;refine(HS.out _).mono ?_;rintro e w1 ⟨rfl,q1⟩;replace M:=M.below q1;have HM:=ZH (M.new 202 #[iw rule,iw sx,iw sa,.bool has,iw bits]);clear p0 p1 p2 p3 m0 m1 m2 m3 q1 HS M;obtain⟨p0,p1,p2,p3⟩:=(HM.out.k (i:=1) rfl).four;go_wp2_with fail;refine(HFM.out _ HM.out.bel).mono ?_;rintro e w2 ⟨rfl,q2⟩;have HM2:=ZH (HM.out.below q2);have HBB:=ZH HM2.out.bel;clear p0 p1 p2 p3 q2 HM HFM;obtain⟨s0,s1,s2,s3,s4⟩:=(HM2.out.k (i:=0) rfl).fiveS;obtain⟨p0,p1,p2,p3⟩:=(HM2.out.k (i:=1) rfl).four;obtain⟨m0,m1,m2,m3⟩:=(HM2.out.k (i:=2) rfl).four;cases FB with
  |false=>
   have HE:Hid (F=false):=HF.out;go_wp2_with fail;exact bodyPost_ret (v:= .bool false) (by simp[results,Tryz.results105,go_sem]) rfl ⟨by rw[HE.out],HBB.out⟩
  |true=>
   by_cases h1:X.length≤32
   ·have d1:decide ((32:Int)<(X.length:Int))=false:=dF (by omega);go_wp2_with fail;refine(mwithin (z:=C) rfl).mono ?_;rintro e w3 ⟨rfl,q3⟩;have HM3:=ZH (HM2.out.below q3);have HBB:=ZH HM3.out.bel;clear s0 s1 s2 s3 s4 p0 p1 p2 p3 m0 m1 m2 m3 q3 HM2;obtain⟨s0,s1,s2,s3,s4⟩:=(HM3.out.k (i:=0) rfl).fiveS;obtain⟨p0,p1,p2,p3⟩:=(HM3.out.k (i:=1) rfl).four;obtain⟨m0,m1,m2,m3⟩:=(HM3.out.k (i:=2) rfl).four;cases hwc:withinB C with
    |false=>
     have HE:Hid (F=false):=HF.out.trans (by rw[hwc,dT h1];rfl);go_wp2_with fail;exact bodyPost_ret (v:= .bool false) (by simp[results,Tryz.results105,go_sem]) rfl ⟨by rw[HE.out],HBB.out⟩
    |true=>
     have HF2:Hid (F=((decide (C=0)||has)&&(placesB m.doms bits X&&A.all withinB))):=HF.out.trans (by rw[hwc,dT h1];rfl);clear HF;by_cases h2:C=0∨has=true
     ·have HF3:Hid (F=(placesB m.doms bits (X.drop 0)&&A.all withinB)):=HF2.out.trans (by
       rcases h2 with h2|h2
       ·rw[dT h2];rfl
       ·rw[h2,Bool.or_true];rfl)
      clear HF2;have hgo:Hid (C=0∨C≠0∧has=true):=by
       by_cases e:C=0
       ·exact .inl e
       ·exact .inr ⟨e,h2.resolve_left e⟩
      clear h2;have HXX:=ZH (HX.out.below HBB.out);rcases hgo.out with e|⟨e,e2⟩
      ·have d2:(C !=0)=false:=by rw[e];rfl
       clear e hgo;go_wp2_with fail;go_loopg [43] X.length (fun k p wr=>∃j,k=X.length-j∧j≤X.length∧p= .int .i64 (j:Nat)∧Hid (F=(placesB m.doms bits (X.drop j)&&A.all withinB))∧Hid (Below w3.heap.size w3 wr))
       case atStart=>exact⟨0,rfl,Nat.zero_le _,rfl,HF3.out,Below.refl _ _⟩
       case round=>
        clear HF3 s0 s1 s2 s3 s4 p0 p1 p2 p3 m0 m1 m2 m3;obtain⟨j,hk,hj,rfl,HL,HQ⟩:=hrel;have HM:=ZH (HM3.out.below HQ.out);have HBB:=ZH HM.out.bel;obtain⟨s0,s1,s2,s3,s4⟩:=(HM.out.k (i:=0) rfl).fiveS;obtain⟨p0,p1,p2,p3⟩:=(HM.out.k (i:=1) rfl).four;obtain⟨m0,m1,m2,m3⟩:=(HM.out.k (i:=2) rfl).four;by_cases hlt:j<X.length
        ·have d5:decide ((j:Int)<(X.length:Int))=true:=dT (by omega);have HC:Hid (F=((placeB m.doms (decide (bits=2)||(decide (bits=1)&&decide (j+1=X.length))) (X.getD j 0)&&placesB m.doms bits (X.drop (j+1)))&&A.all withinB)):=HL.out.trans (by rw[places_step m.doms bits X j hlt]);obtain⟨gx,ox,hxa,cj⟩:=(HXX.out.below HQ.out) j hlt;replace cj:wr.cell? ⟨gx,ox+j,none⟩=some (.int .i64 (X.getD j 0)):=cj;rw[hxa]at p1;rw[hxa];have HXA:=ZH hxa;generalize X.getD j 0=z at*;clear HL hxa;by_cases z0:z<0
         ·have d6:decide (z<0)=true:=dT z0;have HE:Hid (F=false):=HC.out.trans (by rw[place_neg z0];rfl);go_wp2_with fail;exact bodyPost_ret (v:= .bool false) (by simp[results,Tryz.results105,go_sem]) rfl ⟨by rw[HE.out],HBB.out⟩
         ·obtain⟨n,rfl⟩:=Int.eq_ofNat_of_zero_le (Int.not_lt.1 z0);have d6:decide ((n:Int)<0)=false:=dF (by omega);by_cases hn:n<m.doms.length
          ·have d7:decide ((m.doms.length:Int)≤(n:Int))=false:=dF (by omega);have x1:IntKind.i64.wrap ((X.length:Int)-1)=(X.length:Int)-1:=by rw[IntKind.wrap_i64];omega
           by_cases b2:bits=2
           ·have d8:(bits==2)=true:=beq_iff_eq.2 b2;have HT:Hid (F=(truthB (m.doms.getD n [])&&(placesB m.doms bits (X.drop (j+1))&&A.all withinB))):=HC.out.trans (by rw[place_in hn,dT b2,Bool.and_assoc];rfl);clear b2 HC;obtain⟨gd,od,hda,cd⟩:=(HD.out.below HBB.out).ap n hn;replace cd:wr.cell? ⟨gd,od+n,none⟩=some (.slice (a.ds.getD n ad0).1 (m.doms.getD n []).length (a.ds.getD n ad0).2):=cd;rw[hda]at m0;have HRR:=ZH ((HD.out.below HBB.out).ar n hn);have hrl:=HDZ.out n hn;clear hda;generalize (a.ds.getD n ad0).1=DA at*;generalize (a.ds.getD n ad0).2=dc at*;generalize m.doms.getD n []=row at*;go_wp2_with fail;refine(truth_any HRR.out (by omega)).mono ?_;rintro e w5 ⟨rfl,q5⟩;have HQ5:=ZH (bT HQ.out q5);have HBB:=ZH (bT HBB.out q5);cases htr:truthB row with
            |false=>
             have HE:Hid (F=false):=HT.out.trans (by rw[htr];rfl);go_wp2_with fail;exact bodyPost_ret (v:= .bool false) (by simp[results,Tryz.results105,go_sem]) rfl ⟨by rw[HE.out],HBB.out⟩
            |true=>
             have HC2:Hid (F=(placesB m.doms bits (X.drop (j+1))&&A.all withinB)):=HT.out.trans (by rw[htr];rfl);clear HT;go_wp2_with fail;rw[←HXA.out];go_roundg (X.length-(j+1))
             case measure=>omega
             case rel=>exact⟨j+1,rfl,by omega,by simp,HC2.out,HQ5.out⟩
           ·have d8:(bits==2)=false:=beq_false_of_ne b2;by_cases b1:bits=1
            ·have d9:(bits==1)=true:=beq_iff_eq.2 b1;by_cases b3:j+1=X.length
             ·have d10:((j:Int)==(X.length:Int)-1)=true:=beq_iff_eq.2 (by omega);have HT:Hid (F=(truthB (m.doms.getD n [])&&(placesB m.doms bits (X.drop (j+1))&&A.all withinB))):=HC.out.trans (by rw[place_in hn,dT b1,dT b3,Bool.and_self,Bool.or_true,Bool.and_assoc];rfl);clear b2 b1 HC;obtain⟨gd,od,hda,cd⟩:=(HD.out.below HBB.out).ap n hn;replace cd:wr.cell? ⟨gd,od+n,none⟩=some (.slice (a.ds.getD n ad0).1 (m.doms.getD n []).length (a.ds.getD n ad0).2):=cd;rw[hda]at m0;have HRR:=ZH ((HD.out.below HBB.out).ar n hn);have hrl:=HDZ.out n hn;clear hda;generalize (a.ds.getD n ad0).1=DA at*;generalize (a.ds.getD n ad0).2=dc at*;generalize m.doms.getD n []=row at*;go_wp2_with fail;refine(truth_any HRR.out (by omega)).mono ?_;rintro e w5 ⟨rfl,q5⟩;have HQ5:=ZH (bT HQ.out q5);have HBB:=ZH (bT HBB.out q5);cases htr:truthB row with
              |false=>
               have HE:Hid (F=false):=HT.out.trans (by rw[htr];rfl);go_wp2_with fail;exact bodyPost_ret (v:= .bool false) (by simp[results,Tryz.results105,go_sem]) rfl ⟨by rw[HE.out],HBB.out⟩
              |true=>
               have HC2:Hid (F=(placesB m.doms bits (X.drop (j+1))&&A.all withinB)):=HT.out.trans (by rw[htr];rfl);clear HT;go_wp2_with fail;rw[←HXA.out];go_roundg (X.length-(j+1))
               case measure=>omega
               case rel=>exact⟨j+1,rfl,by omega,by simp,HC2.out,HQ5.out⟩
             ·have d10:((j:Int)==(X.length:Int)-1)=false:=beq_false_of_ne (by omega);have HC2:Hid (F=(placesB m.doms bits (X.drop (j+1))&&A.all withinB)):=HC.out.trans (by rw[place_in hn,dF b2,dF b3,Bool.and_false,Bool.or_false];rfl);clear b2 b1 b3 HC;go_wp2_with fail;rw[←HXA.out];go_roundg (X.length-(j+1))
              case measure=>omega
              case rel=>exact⟨j+1,rfl,by omega,by simp,HC2.out,HQ.out⟩
            ·have d9:(bits==1)=false:=beq_false_of_ne b1;have HC2:Hid (F=(placesB m.doms bits (X.drop (j+1))&&A.all withinB)):=HC.out.trans (by rw[place_in hn,dF b2,dF b1,Bool.false_and,Bool.or_false];rfl);clear b2 b1 HC;go_wp2_with fail;rw[←HXA.out];go_roundg (X.length-(j+1))
             case measure=>omega
             case rel=>exact⟨j+1,rfl,by omega,by simp,HC2.out,HQ.out⟩
          ·have d7:decide ((m.doms.length:Int)≤(n:Int))=true:=dT (by omega);have HE:Hid (F=false):=HC.out.trans (by rw[place_out hn];rfl);go_wp2_with fail;exact bodyPost_ret (v:= .bool false) (by simp[results,Tryz.results105,go_sem]) rfl ⟨by rw[HE.out],HBB.out⟩
        ·have d5:decide ((j:Int)<(X.length:Int))=false:=dF (by omega);have HE:Hid (F=A.all withinB):=HL.out.trans (by rw[drop_none hlt];rfl);have HA2:=ZH (HA.out.below HBB.out);clear HL;go_wp2_with fail;refine(contains_any (P:=fun z=> !withinB z) HA2.out (by omega) m1_run fun z w'=>m1_any z w').mono ?_;rintro e w5 ⟨rfl,q5⟩;have HQ5:=ZH (bT HBB.out q5);have HE2:Hid (F= !(A.any fun z=> !withinB z)):=HE.out.trans (any_within A).symm;generalize (A.any fun z=> !withinB z)=R at*;go_wp2_with fail;exact bodyPost_ret (v:= .bool (!R)) (by simp[results,Tryz.results105,go_sem]) rfl ⟨by rw[HE2.out],HQ5.out⟩
      ·have d2:(C !=0)=true:=bne_iff_ne.2 e;subst e2;clear e hgo;go_wp2_with fail;go_loopg [43] X.length (fun k p wr=>∃j,k=X.length-j∧j≤X.length∧p= .int .i64 (j:Nat)∧Hid (F=(placesB m.doms bits (X.drop j)&&A.all withinB))∧Hid (Below w3.heap.size w3 wr))
       case atStart=>exact⟨0,rfl,Nat.zero_le _,rfl,HF3.out,Below.refl _ _⟩
       case round=>
        clear HF3 s0 s1 s2 s3 s4 p0 p1 p2 p3 m0 m1 m2 m3;obtain⟨j,hk,hj,rfl,HL,HQ⟩:=hrel;have HM:=ZH (HM3.out.below HQ.out);have HBB:=ZH HM.out.bel;obtain⟨s0,s1,s2,s3,s4⟩:=(HM.out.k (i:=0) rfl).fiveS;obtain⟨p0,p1,p2,p3⟩:=(HM.out.k (i:=1) rfl).four;obtain⟨m0,m1,m2,m3⟩:=(HM.out.k (i:=2) rfl).four;by_cases hlt:j<X.length
        ·have d5:decide ((j:Int)<(X.length:Int))=true:=dT (by omega);have HC:Hid (F=((placeB m.doms (decide (bits=2)||(decide (bits=1)&&decide (j+1=X.length))) (X.getD j 0)&&placesB m.doms bits (X.drop (j+1)))&&A.all withinB)):=HL.out.trans (by rw[places_step m.doms bits X j hlt]);obtain⟨gx,ox,hxa,cj⟩:=(HXX.out.below HQ.out) j hlt;replace cj:wr.cell? ⟨gx,ox+j,none⟩=some (.int .i64 (X.getD j 0)):=cj;rw[hxa]at p1;rw[hxa];have HXA:=ZH hxa;generalize X.getD j 0=z at*;clear HL hxa;by_cases z0:z<0
         ·have d6:decide (z<0)=true:=dT z0;have HE:Hid (F=false):=HC.out.trans (by rw[place_neg z0];rfl);go_wp2_with fail;exact bodyPost_ret (v:= .bool false) (by simp[results,Tryz.results105,go_sem]) rfl ⟨by rw[HE.out],HBB.out⟩
         ·obtain⟨n,rfl⟩:=Int.eq_ofNat_of_zero_le (Int.not_lt.1 z0);have d6:decide ((n:Int)<0)=false:=dF (by omega);by_cases hn:n<m.doms.length
          ·have d7:decide ((m.doms.length:Int)≤(n:Int))=false:=dF (by omega);have x1:IntKind.i64.wrap ((X.length:Int)-1)=(X.length:Int)-1:=by rw[IntKind.wrap_i64];omega
           by_cases b2:bits=2
           ·have d8:(bits==2)=true:=beq_iff_eq.2 b2;have HT:Hid (F=(truthB (m.doms.getD n [])&&(placesB m.doms bits (X.drop (j+1))&&A.all withinB))):=HC.out.trans (by rw[place_in hn,dT b2,Bool.and_assoc];rfl);clear b2 HC;obtain⟨gd,od,hda,cd⟩:=(HD.out.below HBB.out).ap n hn;replace cd:wr.cell? ⟨gd,od+n,none⟩=some (.slice (a.ds.getD n ad0).1 (m.doms.getD n []).length (a.ds.getD n ad0).2):=cd;rw[hda]at m0;have HRR:=ZH ((HD.out.below HBB.out).ar n hn);have hrl:=HDZ.out n hn;clear hda;generalize (a.ds.getD n ad0).1=DA at*;generalize (a.ds.getD n ad0).2=dc at*;generalize m.doms.getD n []=row at*;go_wp2_with fail;refine(truth_any HRR.out (by omega)).mono ?_;rintro e w5 ⟨rfl,q5⟩;have HQ5:=ZH (bT HQ.out q5);have HBB:=ZH (bT HBB.out q5);cases htr:truthB row with
            |false=>
             have HE:Hid (F=false):=HT.out.trans (by rw[htr];rfl);go_wp2_with fail;exact bodyPost_ret (v:= .bool false) (by simp[results,Tryz.results105,go_sem]) rfl ⟨by rw[HE.out],HBB.out⟩
            |true=>
             have HC2:Hid (F=(placesB m.doms bits (X.drop (j+1))&&A.all withinB)):=HT.out.trans (by rw[htr];rfl);clear HT;go_wp2_with fail;rw[←HXA.out];go_roundg (X.length-(j+1))
             case measure=>omega
             case rel=>exact⟨j+1,rfl,by omega,by simp,HC2.out,HQ5.out⟩
           ·have d8:(bits==2)=false:=beq_false_of_ne b2;by_cases b1:bits=1
            ·have d9:(bits==1)=true:=beq_iff_eq.2 b1;by_cases b3:j+1=X.length
             ·have d10:((j:Int)==(X.length:Int)-1)=true:=beq_iff_eq.2 (by omega);have HT:Hid (F=(truthB (m.doms.getD n [])&&(placesB m.doms bits (X.drop (j+1))&&A.all withinB))):=HC.out.trans (by rw[place_in hn,dT b1,dT b3,Bool.and_self,Bool.or_true,Bool.and_assoc];rfl);clear b2 b1 HC;obtain⟨gd,od,hda,cd⟩:=(HD.out.below HBB.out).ap n hn;replace cd:wr.cell? ⟨gd,od+n,none⟩=some (.slice (a.ds.getD n ad0).1 (m.doms.getD n []).length (a.ds.getD n ad0).2):=cd;rw[hda]at m0;have HRR:=ZH ((HD.out.below HBB.out).ar n hn);have hrl:=HDZ.out n hn;clear hda;generalize (a.ds.getD n ad0).1=DA at*;generalize (a.ds.getD n ad0).2=dc at*;generalize m.doms.getD n []=row at*;go_wp2_with fail;refine(truth_any HRR.out (by omega)).mono ?_;rintro e w5 ⟨rfl,q5⟩;have HQ5:=ZH (bT HQ.out q5);have HBB:=ZH (bT HBB.out q5);cases htr:truthB row with
              |false=>
               have HE:Hid (F=false):=HT.out.trans (by rw[htr];rfl);go_wp2_with fail;exact bodyPost_ret (v:= .bool false) (by simp[results,Tryz.results105,go_sem]) rfl ⟨by rw[HE.out],HBB.out⟩
              |true=>
               have HC2:Hid (F=(placesB m.doms bits (X.drop (j+1))&&A.all withinB)):=HT.out.trans (by rw[htr];rfl);clear HT;go_wp2_with fail;rw[←HXA.out];go_roundg (X.length-(j+1))
               case measure=>omega
               case rel=>exact⟨j+1,rfl,by omega,by simp,HC2.out,HQ5.out⟩
             ·have d10:((j:Int)==(X.length:Int)-1)=false:=beq_false_of_ne (by omega);have HC2:Hid (F=(placesB m.doms bits (X.drop (j+1))&&A.all withinB)):=HC.out.trans (by rw[place_in hn,dF b2,dF b3,Bool.and_false,Bool.or_false];rfl);clear b2 b1 b3 HC;go_wp2_with fail;rw[←HXA.out];go_roundg (X.length-(j+1))
              case measure=>omega
              case rel=>exact⟨j+1,rfl,by omega,by simp,HC2.out,HQ.out⟩
            ·have d9:(bits==1)=false:=beq_false_of_ne b1;have HC2:Hid (F=(placesB m.doms bits (X.drop (j+1))&&A.all withinB)):=HC.out.trans (by rw[place_in hn,dF b2,dF b1,Bool.false_and,Bool.or_false];rfl);clear b2 b1 HC;go_wp2_with fail;rw[←HXA.out];go_roundg (X.length-(j+1))
             case measure=>omega
             case rel=>exact⟨j+1,rfl,by omega,by simp,HC2.out,HQ.out⟩
          ·have d7:decide ((m.doms.length:Int)≤(n:Int))=true:=dT (by omega);have HE:Hid (F=false):=HC.out.trans (by rw[place_out hn];rfl);go_wp2_with fail;exact bodyPost_ret (v:= .bool false) (by simp[results,Tryz.results105,go_sem]) rfl ⟨by rw[HE.out],HBB.out⟩
        ·have d5:decide ((j:Int)<(X.length:Int))=false:=dF (by omega);have HE:Hid (F=A.all withinB):=HL.out.trans (by rw[drop_none hlt];rfl);have HA2:=ZH (HA.out.below HBB.out);clear HL;go_wp2_with fail;refine(contains_any (P:=fun z=> !withinB z) HA2.out (by omega) m1_run fun z w'=>m1_any z w').mono ?_;rintro e w5 ⟨rfl,q5⟩;have HQ5:=ZH (bT HBB.out q5);have HE2:Hid (F= !(A.any fun z=> !withinB z)):=HE.out.trans (any_within A).symm;generalize (A.any fun z=> !withinB z)=R at*;go_wp2_with fail;exact bodyPost_ret (v:= .bool (!R)) (by simp[results,Tryz.results105,go_sem]) rfl ⟨by rw[HE2.out],HQ5.out⟩
     ·have hh:C≠0∧has=false:=⟨fun e=>h2 (.inl e),by cases has<;>simp_all⟩;obtain⟨hc0,rfl⟩:=hh;have d2:(C !=0)=true:=bne_iff_ne.2 hc0;have HE:Hid (F=false):=HF2.out.trans (by rw[dF hc0];rfl);go_wp2_with fail;exact bodyPost_ret (v:= .bool false) (by simp[results,Tryz.results105,go_sem]) rfl ⟨by rw[HE.out],HBB.out⟩
   ·have d1:decide ((32:Int)<(X.length:Int))=true:=dT (by omega);have HE:Hid (F=false):=HF.out.trans (by rw[dF h1];rfl);go_wp2_with fail;exact bodyPost_ret (v:= .bool false) (by simp[results,Tryz.results105,go_sem]) rfl ⟨by rw[HE.out],HBB.out⟩
end Go.Proofs.YtecfcjdgmpopjaaGreat

/-
  Joined texts: Gw, Gx, Gy.
-/
import Derived.Test.YtecfcjdgmpopjaaGreatGv
import Derived.Test.YtecfcjdgmpopjaaGreatKp
set_option maxHeartbeats 8000000
set_option maxRecDepth 100000
set_option linter.unusedSimpArgs false
set_option linter.unusedVariables false
namespace Go.Proofs.YtecfcjdgmpopjaaGreat
open Go.RowKit Num
def cmpV (a b:Int):Int:=if a<b then-1 else if b<a then 1 else 0
theorem isnan_any (z:Int)(w:World):Calls Tryz.prog 198 #[.int .i64 z] w fun e w'=>e= .returned (.bool false)∧Below w.heap.size w w':=by
 have d1:(z !=z)=false:=by simp
 go_enter Tryz.func198,Tryz.ntmps198;go_wp2_with fail;exact bodyPost_ret (v:= .bool false) (by simp[results,Tryz.results198,go_sem]) rfl ⟨rfl,Below.refl _ _⟩
theorem compare_any (a b:Int)(w:World):Calls Tryz.prog 176 #[.int .i64 a,.int .i64 b] w fun e w'=>e= .returned (.int .i64 (cmpV a b))∧Below w.heap.size w w':=by
 unfold cmpV;by_cases h1:a<b
 ·have d1:decide (a<b)=true:=dT h1;rw[if_pos h1];go_enter Tryz.func176,Tryz.ntmps176;go_wp2_with fail;refine(isnan_any a w).mono ?_;rintro e w1 ⟨rfl,q1⟩;go_wp2_with fail;refine(isnan_any b w1).mono ?_;rintro e w2 ⟨rfl,q2⟩;go_wp2_with fail;exact bodyPost_ret (v:= .int .i64 (-1)) (by simp[results,Tryz.results176,go_sem]) rfl ⟨rfl,bT q1 q2⟩
 ·have d1:decide (a<b)=false:=dF h1;rw[if_neg h1];by_cases h2:b<a
  ·have d2:decide (b<a)=true:=dT h2;rw[if_pos h2];go_enter Tryz.func176,Tryz.ntmps176;go_wp2_with fail;refine(isnan_any a w).mono ?_;rintro e w1 ⟨rfl,q1⟩;go_wp2_with fail;refine(isnan_any b w1).mono ?_;rintro e w2 ⟨rfl,q2⟩;go_wp2_with fail;exact bodyPost_ret (v:= .int .i64 (1)) (by simp[results,Tryz.results176,go_sem]) rfl ⟨rfl,bT q1 q2⟩
  ·have d2:decide (b<a)=false:=dF h2;rw[if_neg h2];go_enter Tryz.func176,Tryz.ntmps176;go_wp2_with fail;refine(isnan_any a w).mono ?_;rintro e w1 ⟨rfl,q1⟩;go_wp2_with fail;refine(isnan_any b w1).mono ?_;rintro e w2 ⟨rfl,q2⟩;go_wp2_with fail;exact bodyPost_ret (v:= .int .i64 (0)) (by simp[results,Tryz.results176,go_sem]) rfl ⟨rfl,bT q1 q2⟩
theorem from1_run (args:Array Value)(w:World):Sem.run Tryz.prog (callFunc 175 args) w= .ok (.enter 175 args) w:=by kernel_rfl
theorem from1_any (lo hi v:Int)(w:World):Calls Tryz.prog 175 #[.agg #[.int .i64 lo,.int .i64 hi],.int .i64 v] w fun e w'=>e= .returned (.int .i64 (cmpV hi v))∧Below w.heap.size w w':=by
 have M:=(Mem.start w).new tyRg #[.int .i64 lo,.int .i64 hi];have c1:(w.alloc (.cells #[.int .i64 lo,.int .i64 hi] tyRg)).cell? ⟨w.heap.size,1,none⟩=some (.int .i64 hi):=(M.k (i:=0) rfl).cell 1;have HQ:=ZH M.bel;clear M;go_enter Tryz.func175,Tryz.ntmps175;go_wp2_with fail;refine(compare_any hi v _).mono ?_;rintro e w1 ⟨rfl,q1⟩;have HQ1:=ZH (bT HQ.out q1);clear q1 c1;go_wp2_with fail;exact bodyPost_ret (v:= .int .i64 (cmpV hi v)) (by simp[results,Tryz.results175,go_sem]) rfl ⟨rfl,HQ1.out⟩
theorem ranges_lt:∀(l:List (Int×Int))(p:Option Int),rangesB p l=true→∀a b,a<b→b<l.length→(l.getD a (0,0)).2<(l.getD b (0,0)).1∧(l.getD b (0,0)).1≤(l.getD b (0,0)).2
 |[],_,_,a,b,_,hb=>absurd hb (Nat.not_lt_zero _)
 |x::l,p,h,a,0,hab,_=>absurd hab (Nat.not_lt_zero _)
 |x::[],p,h,a,b+1,_,hb=>by simp at hb
 |x::y::l,p,h,a,b+1,hab,hb=>by
  have h0:(rangeB p x&&rangesB (some x.2) (y::l))=true:=h;rw[Bool.and_eq_true]at h0;obtain⟨h1,h2⟩:=h0;have h4:(rangeB (some x.2) y&&rangesB (some y.2) l)=true:=h2;unfold rangeB at h4;simp only[Bool.and_eq_true,decide_eq_true_eq]at h4;have hb':b<(y::l).length:=by simpa using hb
  have ge:∀b,b<(y::l).length→y.1≤((y::l).getD b (0,0)).1∧((y::l).getD b (0,0)).1≤((y::l).getD b (0,0)).2:=fun b hb=>by
   cases b with
   |zero=>exact⟨Int.le_refl _,h4.1.1⟩
   |succ b=>
    have:=ranges_lt (y::l) _ h2 0 (b+1) (Nat.succ_pos _) hb;have e:((y::l).getD 0 (0,0)).2=y.2:=rfl;rw[e]at this;omega
  cases a with
  |zero=>
   have:=ge b hb';show x.2<((y::l).getD b (0,0)).1∧((y::l).getD b (0,0)).1≤((y::l).getD b (0,0)).2;omega
  |succ a=>exact ranges_lt (y::l) _ h2 a b (by omega) hb'
def FromAt (l:List (Int×Int))(v:Int)(i:Nat):Prop:=(∀t,t<i→(l.getD t (0,0)).2<v)∧∀t,i≤t→t<l.length→v≤(l.getD t (0,0)).2
theorem cmp_lt {a b:Int}:cmpV a b<0↔a<b:=by
 unfold cmpV;split
 ·simp_all
 ·split<;>simp_all
theorem bsearch_any {w:World}{A:Option Addr}{c:Nat}{l:List (Int×Int)}{v:Int}(h:RRow w A l)(hs:l.length≤1000000)(hd:setB l=true):Calls Tryz.prog 174 #[.slice A l.length c,.int .i64 v,.func (.func 175) #[] #[]] w fun e w'=>∃(i:Nat)(b:Bool),e= .returned (.tuple #[.int .i64 i,.bool b])∧i≤l.length∧FromAt l v i∧Below w.heap.size w w':=by
 have HI:=ZH h;have HS:=ZH fun a b (hab:a<b)(hb:b<l.length)=>ranges_lt l none hd a b hab hb;have he:=from1_run;clear h hd;go_enter Tryz.func174,Tryz.ntmps174;go_wp2_with fail;go_loopg [9,10] l.length (fun kx s9 s10 wr=>∃lo hi:Nat,s9= .int .i64 lo∧s10= .int .i64 hi∧lo≤hi∧hi≤l.length∧hi-lo≤kx∧Hid (Below w.heap.size w wr)∧
  Hid ((∀t,t<lo→(l.getD t (0,0)).2<v)∧(∀t,hi≤t→t<l.length→v≤(l.getD t (0,0)).2)))
 case atStart=>exact⟨0,l.length,rfl,rfl,Nat.zero_le _,Nat.le_refl _,by omega,Below.refl _ _,(fun t ht=>absurd ht (Nat.not_lt_zero _)),fun t h1 h2=>by omega⟩
 case round=>
  obtain⟨lo,hi,rfl,rfl,hlh,hin,hg,HQ,I⟩:=hrel;by_cases hlt:lo<hi
  ·have hml:(lo+hi)/2<l.length:=by omega
   obtain⟨ga,oa,rfl,ca,cb⟩:=(HI.out.below HQ.out).at hml;obtain⟨ra,hra⟩:∃r,(l.getD ((lo+hi)/2) (0,0)).1=r:=⟨_,rfl⟩;obtain⟨rb,hrb⟩:∃r,(l.getD ((lo+hi)/2) (0,0)).2=r:=⟨_,rfl⟩;rw[hra]at ca;rw[hrb]at cb;have HRB:=ZH hrb;clear hra hrb;go_wp2_with fail;refine(from1_any ra rb v _).mono ?_;rintro e w5 ⟨rfl,q5⟩;have HQ5:=ZH (bT HQ.out q5);clear q5 ca cb;by_cases hc:rb<v
   ·have d1:decide (cmpV rb v<0)=true:=dT (cmp_lt.2 hc);have I2:Hid ((∀t,t<(lo+hi)/2+1→(l.getD t (0,0)).2<v)∧(∀t,hi≤t→t<l.length→v≤(l.getD t (0,0)).2)):=⟨fun t ht=>by
     by_cases e:t=(lo+hi)/2
     ·rw[e,HRB.out];exact hc
     ·have:=HS.out t ((lo+hi)/2) (by omega) hml;rw[HRB.out]at this;omega,I.out.2⟩
    generalize cmpV rb v=cz at*;go_wp2_with fail;go_roundg (hi-((lo+hi)/2+1))
    case measure=>omega
    case rel=>exact⟨(lo+hi)/2+1,hi,by rw[show((lo:Int)+(hi:Int))/2+1=(((lo+hi)/2+1:Nat):Int) by omega],rfl,by omega,hin,Nat.le_refl _,HQ5.out,I2.out⟩
   ·have d1:decide (cmpV rb v<0)=false:=dF fun h=>hc (cmp_lt.1 h);have I2:Hid ((∀t,t<lo→(l.getD t (0,0)).2<v)∧(∀t,(lo+hi)/2≤t→t<l.length→v≤(l.getD t (0,0)).2)):=⟨I.out.1,fun t ht htl=>by
     by_cases e:t=(lo+hi)/2
     ·rw[e,HRB.out];omega
     ·have:=HS.out ((lo+hi)/2) t (by omega) htl;rw[HRB.out]at this;omega⟩
    generalize cmpV rb v=cz at*;go_wp2_with fail;go_roundg ((lo+hi)/2-lo)
    case measure=>omega
    case rel=>exact⟨lo,(lo+hi)/2,rfl,by rw[show((lo:Int)+(hi:Int))/2=(((lo+hi)/2:Nat):Int) by omega],by omega,by omega,Nat.le_refl _,HQ5.out,I2.out⟩
  ·obtain rfl:hi=lo:=by omega
   by_cases hn:hi<l.length
   ·obtain⟨ga,oa,rfl,ca,cb⟩:=(HI.out.below HQ.out).at hn;generalize (l.getD hi (0,0)).1=ra at*;generalize hrb:(l.getD hi (0,0)).2=rb at ca cb;clear hrb;go_wp2_with fail;refine(from1_any ra rb v _).mono ?_;rintro e w5 ⟨rfl,q5⟩;have HQ5:=ZH (bT HQ.out q5);clear q5 ca cb;generalize hb:(cmpV rb v==0)=b at*;go_wp2_with fail;exact bodyPost_ret (v:= .tuple #[.int .i64 (hi:Nat),.bool b]) (by simp[results,Tryz.results174,go_sem];try exact hb) rfl ⟨hi,b,rfl,hin,I.out,HQ5.out⟩
   ·go_wp2_with fail;exact bodyPost_ret (v:= .tuple #[.int .i64 (hi:Nat),.bool false]) (by simp[results,Tryz.results174,go_sem]) rfl ⟨hi,false,rfl,hin,I.out,HQ.out⟩
theorem from_any {w:World}{A:Option Addr}{c:Nat}{l:List (Int×Int)}{v:Int}(h:RRow w A l)(hs:l.length≤1000000)(hd:setB l=true):Calls Tryz.prog 136 #[.slice A l.length c,.int .i64 v] w fun e w'=>∃i:Nat,e= .returned (.int .i64 i)∧i≤l.length∧FromAt l v i∧Below w.heap.size w w':=by
 have HB:=ZH (bsearch_any (c:=c) (v:=v) h hs hd);clear h hd;go_enter Tryz.func136,Tryz.ntmps136;go_wp2_with fail;refine HB.out.mono ?_;rintro e w1 ⟨i,b,rfl,hi,hf,q1⟩;have HF:=ZH hf;have HQ:=ZH q1;clear hf q1;go_wp2_with fail;exact bodyPost_ret (v:= .int .i64 (i:Nat)) (by simp[results,Tryz.results136,go_sem]) rfl ⟨i,rfl,hi,HF.out,HQ.out⟩
set_option maxHeartbeats 16000000
def flatR:List (Int×Int)→List Value
 |[]=>[]
 |r::l=>iw r.1::iw r.2::flatR l
theorem flatR_app:∀(l:List (Int×Int))(r:Int×Int),flatR (l++[r])=flatR l++[iw r.1,iw r.2]
 |[],r=>rfl
 |x::l,r=>by
  show iw x.1::iw x.2::flatR (l++[r])=iw x.1::iw x.2::flatR l++[iw r.1,iw r.2];rw[flatR_app l r];rfl
theorem flatR_at:∀(l:List (Int×Int))(j:Nat),j<l.length→(flatR l)[j*2]? =some (iw (l.getD j (0,0)).1)∧(flatR l)[j*2+1]? =some (iw (l.getD j (0,0)).2)
 |[],j,h=>absurd h (Nat.not_lt_zero _)
 |x::l,0,_=>⟨rfl,rfl⟩
 |x::l,j+1,h=>by
  have:=flatR_at l j (by simpa using h);rw[show(j+1)*2=j*2+1+1 by omega];exact this
theorem NRow.rrow {w:World}{base:Nat}{A:Option Addr}{c:Nat}{l:List (Int×Int)}(h:NRow w base tyRg 2 (.slice A l.length c) l.length (flatR l)):RRow w A l:=fun i hi=>by
 have hj:i/2<l.length:=by omega
 have hk:=flatR_at l (i/2) hj;rcases Nat.mod_two_eq_zero_or_one i with e|e
 ·have e2:i/2*2=i:=by omega
  rw[e2]at hk;obtain⟨g,rfl,hc⟩:=h.cell hk.1;refine⟨g,0,rfl,?_⟩;rw[Nat.zero_add];dsimp only;rw[if_pos e];exact hc
 ·have e2:i/2*2+1=i:=by omega
  rw[e2]at hk;obtain⟨g,rfl,hc⟩:=h.cell hk.2;refine⟨g,0,rfl,?_⟩;rw[Nat.zero_add];dsimp only;rw[if_neg (by omega)];exact hc
theorem cut_ahead {l:List (Int×Int)}{lo hi:Int}:∀(i:Nat),i≤l.length→(∀t,t<i→(l.getD t (0,0)).2<lo)→l.filterMap (meetR lo hi)=(l.drop i).filterMap (meetR lo hi)
 |0,_,_=>rfl
 |i+1,h,hf=>by
  rw[cut_ahead i (by omega) fun t ht=>hf t (by omega),drop_at (z:=(0,0)) (by omega:i<l.length),List.filterMap_cons];have:=hf i (by omega);have e:meetR lo hi (l.getD i (0,0))=none:=by
   unfold meetR;rw[if_neg (by omega)]
  rw[e]
theorem cut_behind {lo hi:Int}:∀(l:List (Int×Int)),(∀t,t<l.length→hi<(l.getD t (0,0)).1)→l.filterMap (meetR lo hi)=[]
 |[],_=>rfl
 |x::l,h=>by
  rw[List.filterMap_cons];have h0:hi<x.1:=h 0 (by simp);have e:meetR lo hi x=none:=by
   unfold meetR;rw[if_neg (by omega)]
  rw[e];exact cut_behind l fun t ht=>h (t+1) (by simpa using ht)
theorem drop_getD {α:Type}(l:List α)(i t:Nat)(z:α):(l.drop i).getD t z=l.getD (i+t) z:=by
 rw[gE,List.getElem?_drop,←gE]
theorem info_rgz:(Tryz.prog.info? 65).map (fun i=>(i.zero,i.size,i.bytes))=some (some (.agg #[.int .i64 0,.int .i64 0]),2,16):=by kernel_rfl
theorem setcut_any {w:World}{A:Option Addr}{c:Nat}{l:List (Int×Int)}{lo hi:Int}(h:RRow w A l)(hs:l.length≤1000000)(hd:setB l=true)(hcap:l.length≤c):Calls Tryz.prog 81 #[.slice A l.length c,.int .i64 lo,.int .i64 hi] w fun e w'=>∃B cc,e= .returned (.slice B (cutS l lo hi).length cc)∧RRow w' B (cutS l lo hi)∧Below w.heap.size w w':=by
 have HI:=ZH h;have HSR:=ZH (setright_any (c:=c) h hs);rw[hd]at HSR;have HF:=ZH fun(w':World)(q:Below w.heap.size w w')=>from_any (c:=c) (v:=lo) (h.below q) hs hd;have HRL:=ZH fun a b (hab:a<b)(hb:b<l.length)=>ranges_lt l none hd a b hab hb;have HVL:=ZH fun a (ha:a<l.length)=>(ranges_in l none hd _ (getD_in (z:=(0,0)) ha)).2.1;obtain⟨S,hS⟩:∃S,cutS l lo hi=S:=⟨_,rfl⟩;have HS:Hid (S=l.filterMap (meetR lo hi)):=by
  show _=_;rw[←hS];unfold cutS;rw[if_pos hd]
 rw[hS];clear h hd hS;go_enter Tryz.func81,Tryz.ntmps81;go_wp2_with fail;refine HSR.out.mono ?_;rintro e w1 ⟨rfl,q1⟩;have HQ1:=ZH q1;clear q1;go_upto_region 4 with fail;go_cut [17,18,19] (fun s17 s18 s19 wx=>∃(i:Nat)(B:Option Addr)(cc:Nat),s17= .slice B (l.length-i) cc∧s18= .int .i64 ((l.length-i:Nat):Int)∧s19= .int .i64 0∧i≤l.length∧FromAt l lo i∧RRow wx B (l.drop i)∧Below w.heap.size w wx)
 case first=>
  go_wp2_with fail;refine(HF.out _ HQ1.out).mono ?_;rintro e w2 ⟨i,rfl,hi2,hf,q2⟩;have HQ2:=ZH (bT HQ1.out q2);have HF2:=ZH hf;clear q2 hf HSR HF HQ1;by_cases hil:i<l.length
  ·have HRR:=ZH (HI.out.below HQ2.out);obtain⟨g,o,rfl,_,_⟩:=HRR.out.at hil;have hci:¬c=i:=by omega
   go_wp2_with fail;go_meet;refine⟨i,some ⟨g,o+i*2,none⟩,c-i,?_,rfl,rfl,hi2,HF2.out,fun j hj=> ?_,HQ2.out⟩
   ·simp[Addr.add]
   ·rw[List.length_drop]at hj;obtain⟨g',o',e',hc⟩:=HRR.out (i*2+j) (by omega);cases e';refine⟨g,o+i*2,rfl,?_⟩;have e1:(i*2+j)%2=j%2:=by omega
    have e2:(i*2+j)/2=i+j/2:=by omega
    dsimp only at hc;rw[e1,e2]at hc;dsimp only;rw[drop_getD,show o+i*2+j=o+(i*2+j) by omega];exact hc
  ·have hr:∀(wx:World)(B:Option Addr),RRow wx B (l.drop i):=fun wx B j hj=>by
    rw[List.length_drop]at hj;omega
   have HR:=ZH hr;clear hr;by_cases hci:c=i
   ·have hcc:(c=i)=True:=eq_true hci;have HCI:=ZH hci;clear hci;go_wp2_with fail;go_meet;exact⟨i,_,_,rfl,rfl,rfl,hi2,HF2.out,HR.out _ _,HQ2.out⟩
   ·go_wp2_with fail;go_meet;exact⟨i,_,_,rfl,rfl,rfl,hi2,HF2.out,HR.out _ _,HQ2.out⟩
 case rest=>
  obtain⟨i,B,cc,rfl,rfl,rfl,hi2,hf,hr,hq⟩:=hcut;obtain⟨W0,hW0⟩:∃W0,W0=wc:=⟨_,rfl⟩;subst hW0;have HS2:Hid (S=(l.drop i).filterMap (meetR lo hi)):=HS.out.trans (cut_ahead i hi2 hf.1);have hrn:(l.drop i).length=l.length-i:=List.length_drop;have HRL2:Hid (∀a b,a<b→b<(l.drop i).length→((l.drop i).getD a (0,0)).2<((l.drop i).getD b (0,0)).1∧((l.drop i).getD b (0,0)).1≤((l.drop i).getD b (0,0)).2):=fun a b hab hb=>by
   rw[drop_getD,drop_getD];exact HRL.out _ _ (by omega) (by omega)
  have HVR:Hid (∀a,a<(l.drop i).length→((l.drop i).getD a (0,0)).1≤((l.drop i).getD a (0,0)).2):=fun a ha=>by
   rw[drop_getD];exact HVL.out _ (by omega)
  have HI2:=ZH hr;have HQ:=ZH hq;rw[←hrn];have hrs:(l.drop i).length≤1000000:=by omega
  generalize l.drop i=rl at*;clear hr hq hf hrn HRL HVL HS HI hi2 hcap HQ1 HF;go_wp2_with fail;go_loopg [19,7] rl.length (fun kk pp vv wr=>∃(j:Nat)(A2:Option Addr)(c2:Nat)(done:List (Int×Int)),kk=rl.length-j∧j≤rl.length∧pp= .int .i64 (j:Nat)∧vv= .slice A2 done.length c2∧Hid (S=done++(rl.drop j).filterMap (meetR lo hi))∧done.length≤j∧Hid (NRow wr W0.heap.size tyRg 2 (.slice A2 done.length c2) done.length (flatR done))∧Hid (Below W0.heap.size W0 wr))
  case atStart=>exact⟨0,none,0,[],rfl,Nat.zero_le _,rfl,rfl,HS2.out,Nat.le_refl _,NRow.nil _ _ _ _,Below.refl _ _⟩
  case round=>
   clear HS2;obtain⟨j,A2,c2,done,hkk,hj,rfl,rfl,HL,hdj,HN,HQW⟩:=hrel;by_cases hlt:j<rl.length
   ·have d1:decide ((j:Int)<(rl.length:Int))=true:=dT (by omega);obtain⟨g,o,hB,c0,c1⟩:=(HI2.out.below HQW.out).at hlt;have HBB:=ZH hB;rw[hB];have HC:Hid (S=done++(match meetR lo hi (rl.getD j (0,0)) with|none=>(rl.drop (j+1)).filterMap (meetR lo hi)|some r=>r::(rl.drop (j+1)).filterMap (meetR lo hi))):=HL.out.trans (by rw[drop_at (z:=(0,0)) hlt,List.filterMap_cons];cases meetR lo hi (rl.getD j (0,0))<;>rfl);have HBH:Hid (hi<(rl.getD j (0,0)).1→S=done):=fun hh=>HL.out.trans (by
     rw[cut_behind (rl.drop j) fun t ht=> ?_,List.append_nil];rw[List.length_drop]at ht;rw[drop_getD];by_cases e:t=0
     ·rw[e];exact hh
     ·have h2:=HRL2.out j (j+t) (by omega) (by omega);have h3:=HVR.out j hlt;omega)
    generalize rl.getD j (0,0)=r at*;obtain⟨ra,rb⟩:=r;have M2:=(Mem.start wr).new tyRg #[.int .i64 0,.int .i64 0];clear HL hB;by_cases h1:hi<ra
    ·have d2:decide (hi<ra)=true:=dT h1;have HE:Hid (S=done):=HBH.out h1;clear HC HBH h1;go_wp2_with ((with_reducible refine st_ ?_);refine wP2 _ _ (M2.k (i:=0) rfl) rfl rfl rfl rfl info_range rfl rfl ?_;intro w6 b6 g6;replace M2:=M2.row ZL (by simp) rfl b6 g6;have y0:=((M2.k (i:=0) rfl).cell 0).trans rfl;have y1:=((M2.k (i:=0) rfl).cell 1).trans rfl);have HQ6:=ZH (bT HQ.out (bT HQW.out M2.bel));have HN6:=ZH (HN.out.below M2.bel);exact bodyPost_ret (v:= .slice A2 done.length c2) (by simp[results,Tryz.results81,go_sem]) rfl (by rw[HE.out];exact⟨A2,⟨c2,rfl⟩,HN6.out.rrow,HQ6.out⟩)
    ·have d2:decide (hi<ra)=false:=dF h1;go_upto_region 9 with ((with_reducible refine st_ ?_);refine wP2 _ _ (M2.k (i:=0) rfl) rfl rfl rfl rfl info_range rfl rfl ?_;intro w6 b6 g6;replace M2:=M2.row ZL (by simp) rfl b6 g6;have y0:=((M2.k (i:=0) rfl).cell 0).trans rfl;have y1:=((M2.k (i:=0) rfl).cell 1).trans rfl);have HQW6:=ZH (bT HQW.out M2.bel);have HN6:=ZH (HN.out.below M2.bel);have hwb:=HQW6.out.size;have hdl:done.length≤1000000:=by omega
     clear HQW HN b6 g6 HBH;obtain⟨W6,hW6⟩:∃W,W=w6:=⟨_,rfl⟩;subst hW6;clear M2;by_cases h2:max ra lo≤min rb hi
     ·have d3:decide (max ra lo≤min rb hi)=true:=dT h2;have HE:Hid (S=(done++[(max ra lo,min rb hi)])++(rl.drop (j+1)).filterMap (meetR lo hi)):=HC.out.trans (by
       unfold meetR;dsimp only;rw[if_pos h2,List.append_assoc];rfl)
      generalize max ra lo=na at*;generalize min rb hi=nb at*;clear h2 HC h1 d2;go_wp2_with (at_builtin;refine wp_appNu _ _ W6 W0.heap.size tyRg 2 (.slice A2 done.length c2) done.length (flatR done) #[iw na,iw nb] (by first|rfl|simp) Tryz.underlying66 info_rgz rfl rfl (by decide) (by decide) HN6.out hwb hdl rfl rfl rfl rfl rfl rfl rfl ?_;intro v7 w7 r1 r2 r3 r4;obtain⟨A7,c7,rfl⟩:=r1.slice);rw[←HBB.out];go_roundg (rl.length-(j+1))
      case measure=>omega
      case rel=>
       have hl7:(done++[(na,nb)]).length=done.length+1:=by rw[List.length_append];rfl
       exact⟨j+1,A7,c7,done++[(na,nb)],rfl,by omega,by simp,by rw[hl7],HE.out,by omega,(by rw[hl7,flatR_app];exact r1),HQW6.out.trans r3⟩
     ·have d3:decide (max ra lo≤min rb hi)=false:=dF h2;have HE:Hid (S=done++(rl.drop (j+1)).filterMap (meetR lo hi)):=HC.out.trans (by
       unfold meetR;dsimp only;rw[if_neg h2])
      generalize max ra lo=na at*;generalize min rb hi=nb at*;clear h2 HC h1 d2;go_wp2_with fail;rw[←HBB.out];go_roundg (rl.length-(j+1))
      case measure=>omega
      case rel=>exact⟨j+1,A2,c2,done,rfl,by omega,by simp,rfl,HE.out,by omega,HN6.out,HQW6.out⟩
   ·have d1:decide ((j:Int)<(rl.length:Int))=false:=dF (by omega);have HE:Hid (S=done):=HL.out.trans (by rw[List.drop_eq_nil_of_le (by omega)];exact List.append_nil _);go_wp2_with fail;exact bodyPost_ret (v:= .slice A2 done.length c2) (by simp[results,Tryz.results81,go_sem]) rfl ⟨A2,c2,by rw[HE.out],by rw[HE.out];exact HN.out.rrow,bT HQ.out HQW.out⟩
def ToldQ (w:World)(o:Option Rat)(n:Bool)(A:Option Addr)(l c:Nat)(m:Bool)(B:Option Addr)(k d:Nat)(x:Int):Prop:=(x=0∧∃r,o=some r∧n=sN r.num∧l=(sD r.num).length∧m=false∧k=(dig r.den).length∧QR w A c B d r)∨(x≠0∧o=none)
theorem told_of {w w':World}{e:Ending}{o:Option Rat}{R:R5}(ht:(∃r,o=some r∧Few r∧R=qok r)∨(o=none∧∃x:Int,x≠0∧R=dbad x))(h:RetQE w w' e R):Below w.heap.size w w'∧∃n A l c m B k d x,e= .returned (.tuple #[rv n A l c m B k d,.int .i64 x])∧ToldQ w' o n A l c m B k d x:=by
 obtain⟨⟨A,c,B,d,rfl,h1,h2⟩,q⟩:=h;rcases ht with ⟨r,rfl,hf,rfl⟩|⟨rfl,x,hx,rfl⟩
 ·exact⟨q,_,_,_,_,_,_,_,_,_,rfl,.inl ⟨rfl,r,rfl,rfl,rfl,rfl,rfl,h1,h2,hf⟩⟩
 ·exact⟨q,_,_,_,_,_,_,_,_,_,rfl,.inr ⟨hx,rfl⟩⟩
section
variable {w : World} {A B A' B' : Option Addr} {c d c' d' : Nat} {p q : Rat}
theorem fadd_any (h:QR w A c B d p)(h':QR w A' c' B' d' q):Calls Tryz.prog 41 #[qv p A c B d,qv q A' c' B' d'] w fun e w'=>Below w.heap.size w w'∧∃n A l c m B k d x,e= .returned (.tuple #[rv n A l c m B k d,.int .i64 x])∧ToldQ w' (addO p q) n A l c m B k d x:=
 (qadd_rat h h').mono fun _ _ h=>told_of (told_fit (p+q)) h
theorem fmul_any (h:QR w A c B d p)(h':QR w A' c' B' d' q):Calls Tryz.prog 132 #[qv p A c B d,qv q A' c' B' d'] w fun e w'=>Below w.heap.size w w'∧∃n A l c m B k d x,e= .returned (.tuple #[rv n A l c m B k d,.int .i64 x])∧ToldQ w' (mulO p q) n A l c m B k d x:=
 (qmul_rat h h').mono fun _ _ h=>told_of (told_fit (p*q)) h
theorem fdiv_any (h:QR w A c B d p)(h':QR w A' c' B' d' q):Calls Tryz.prog 133 #[qv p A c B d,qv q A' c' B' d'] w fun e w'=>Below w.heap.size w w'∧∃n A l c m B k d x,e= .returned (.tuple #[rv n A l c m B k d,.int .i64 x])∧ToldQ w' (divO p q) n A l c m B k d x:=
 (qdiv_rat h h').mono fun _ _ h=>told_of (by
  unfold divO;split
  ·exact .inr ⟨rfl,2,by decide,rfl⟩
  ·exact told_fit (p/q)) h
theorem fneg_any (h:QR w A c B d p):Calls Tryz.prog 42 #[qv p A c B d] w fun e w'=>Below w.heap.size w w'∧∃n A l c m B k d x,e= .returned (.tuple #[rv n A l c m B k d,.int .i64 x])∧ToldQ w' (some (-p)) n A l c m B k d x:=
 (qneg_rat h).mono fun _ _ k=>told_of (.inl ⟨-p,rfl,few_neg h.few,rfl⟩) k
end
abbrev tyFl:TypeId:=89
abbrev flC (m:Pa)(p:Pg)(Y:Option Addr)(n c:Nat)(q:Rat)(A:Option Addr)(cA:Nat)(B:Option Addr)(cB:Nat)(big:Bool):Array Value:=
 #[.slice m.lo.1 p.lo.length m.lo.2,.slice m.hi.1 p.hi.length m.hi.2,.slice m.a.1 p.a.length m.a.2,.slice m.b.1 p.b.length m.b.2,.slice m.c.1 p.c.length m.c.2,.slice Y n c,.bool (sN q.num),.slice A (sD q.num).length cA,.bool false,.slice B (dig q.den).length cB,.bool big]
abbrev flG (m:Pa)(p:Pg)(Y:Option Addr)(n c:Nat)(r0 r1 r2 r3:Value)(big:Bool):Array Value:=
 #[.slice m.lo.1 p.lo.length m.lo.2,.slice m.hi.1 p.hi.length m.hi.2,.slice m.a.1 p.a.length m.a.2,.slice m.b.1 p.b.length m.b.2,.slice m.c.1 p.c.length m.c.2,.slice Y n c,r0,r1,r2,r3,.bool big]
def FK (g:Nat)(w w':World):Prop:=∀(b o:Nat)(v:Value),(b=g→o<10)→w.cell? ⟨b,o,none⟩=some v→w'.cell? ⟨b,o,none⟩=some v
theorem FK.of {g:Nat}{w w':World}(q:Below w.heap.size w w'):FK g w w':=fun b o v _ h=>Lk.of h _ q
theorem FK.trans {g:Nat}{w w1 w2:World}(h:FK g w w1)(k:FK g w1 w2):FK g w w2:=fun b o v ho hv=>k b o v ho (h b o v ho hv)
structure FSt (g:Nat) (w w':World):Prop where
 stp:Stp (fun k=>k=g) w w'
 fk:FK g w w'
theorem FSt.of {g:Nat}{w w':World}(q:Below w.heap.size w w'):FSt g w w':=⟨Stp.of q,FK.of q⟩
theorem FSt.trans {g:Nat}{w w1 w2:World}(h:FSt g w w1)(k:FSt g w1 w2):FSt g w w2:=⟨h.stp.trans k.stp,h.fk.trans k.fk⟩
theorem FSt.qr {g:Nat}{w w':World}{A B:Option Addr}{c d:Nat}{q:Rat}(h:FSt g w w')(k:QR w A c B d q):QR w' A c B d q:=k.stp h.stp
def MuP (g:Nat)(cells:Bool→Array Value)(o:Option Rat)(b:Bool)(w:World)(e:Ending)(w':World):Prop:=FSt g w w'∧∃r A1 c1 B1 d1 b',e= .returned (qv r A1 c1 B1 d1)∧QR w' A1 c1 B1 d1 r∧Blk w' g tyFl (cells b')∧(o=some r∧b'=b∨o=none∧b'=true)
theorem fmust_gen {w:World}{g:Nat}{m':Pa}{p:Pg}{Y:Option Addr}{n' c':Nat}{r0 r1 r2 r3:Value}{b:Bool}{o:Option Rat}{n:Bool}{A:Option Addr}{l c:Nat}{m:Bool}{B:Option Addr}{k d:Nat}{x:Int}(hb:Blk w g tyFl (flG m' p Y n' c' r0 r1 r2 r3 b))(ht:ToldQ w o n A l c m B k d x)(hnu:[r0,r1,r2,r3].all nu=true):Calls Tryz.prog 40 #[vptr g,rv n A l c m B k d,.int .i64 x] w fun e w'=>MuP g (fun b'=>flG m' p Y n' c' r0 r1 r2 r3 b') o b w e w':=by
 have M:=((Mem.start w).new 72 #[.bool n,.slice A l c,.bool m,.slice B k d]).newAt (g:=w.heap.size+1) (by simp) 72 #[.bool false,.slice none 0 0,.bool false,.slice none 0 0];obtain⟨v1,v2,v3,v4⟩:=(M.k (i:=1) rfl).four;have HB:=ZH hb;have hgl:=hb.lt;have hnn:(flG m' p Y n' c' r0 r1 r2 r3 b).toList.all nu=true:=by
  simp only[List.all_cons,List.all_nil,Bool.and_eq_true]at hnu;obtain⟨e0,e1,e2,e3,_⟩:=hnu;show(nu _&&(nu _&&(nu _&&(nu _&&(nu _&&(nu _&&(nu r0&&(nu r1&&(nu r2&&(nu r3&&(nu _&&true)))))))))))=true;rw[e0,e1,e2,e3];rfl
 rcases ht with ⟨rfl,r,ho,h1,h2,h3,h4,hq⟩|⟨hx,ho⟩
 ·have HQ:=ZH hq;have HO:=ZH (show o=some r∧n=sN r.num∧l=(sD r.num).length∧m=false∧k=(dig r.den).length from⟨ho,h1,h2,h3,h4⟩);clear ho h1 h2 h3 h4 hq hb;go_enter Tryz.func40,Tryz.ntmps40;go_wp2_with ((with_reducible refine st_ ?_);refine wP2 _ _ (M.k (i:=0) rfl) rfl rfl rfl rfl info_rat rfl rfl ?_;intro w4 b4 g4;obtain⟨f1,f2,f3,f4⟩:=b4.four);have hbe:=below_own M.bel g4 (Nat.le_succ _);have HBE:=ZH hbe;refine bodyPost_ret (v:=rv n A l c m B k d) (by simp[results,Tryz.results40,go_sem,f1,f2,f3,f4]) rfl ⟨FSt.of HBE.out,r,A,c,B,d,b,?_,HQ.out.below HBE.out,HB.out.below HBE.out ZL,.inl ⟨HO.out.1,rfl⟩⟩;obtain⟨_,e1,e2,e3,e4⟩:=HO.out;rw[e1,e2,e3,e4]
 ·have hx':=ne_boolK hx;have HO:=ZH ho;have k10:w.cell? ⟨g,10,none⟩=some (.bool b):=hb.cell 10;have kf:=hb.frozen 10;have hg1:=gSC w g 10 (.bool true);have HBU:Hid (Blk (w.setCell ⟨g,10,none⟩ (.bool true)) g tyFl (flG m' p Y n' c' r0 r1 r2 r3 true)):=hb.set_ 10 (.bool true);have HSU:Hid (FSt g w (w.setCell ⟨g,10,none⟩ (.bool true))):=by
   refine⟨Stp.wrote (S:=fun k=>k=g) (hb.box hnn) hg1 rfl,fun b' o' v hne hv=> ?_⟩;rw[World.cell?_setCell_other _ _ _ _ (fun e=>by injection e with e1 e2;have:=hne e1.symm;omega)];exact hv
  have hsz:(w.setCell ⟨g,10,none⟩ (.bool true)).heap.size=w.heap.size:=by simp[World.setCell]
  have HSZ:=ZH hsz;have kA:=(hb.below M.bel ZL).cell 10;have kA':((w.alloc (.cells #[.bool n,.slice A l c,.bool m,.slice B k d] 72)).alloc (.cells #[.bool false,.slice none 0 0,.bool false,.slice none 0 0] 72)).cell? ⟨g,10,none⟩=some (.bool b):=kA;have kfA:=(hb.below M.bel ZL).frozen 10;clear hx ho hb hg1 hsz kA;go_enter Tryz.func40,Tryz.ntmps40;go_wp2_with fail;generalize w.setCell ⟨g,10,none⟩ (.bool true)=U at*;have M:=((Mem.start U).new 72 #[.bool n,.slice A l c,.bool m,.slice B k d]).newAt (g:=w.heap.size+1) (by simp[HSZ.out]) 72 #[.bool false,.slice none 0 0,.bool false,.slice none 0 0];clear v1 v2 v3 v4 k10 kf kA' kfA;refine(pof_any (z:=0) (by decide) (by decide)).mono ?_;rintro e w2 ⟨q2,A0,c0,B0,d0,rfl,hq⟩;replace M:=M.below q2;have HQ:=ZH hq;clear hq q2;go_wp2_with ((with_reducible refine st_ ?_);refine wP2 _ _ (M.k (i:=0) rfl) rfl rfl rfl rfl info_rat rfl rfl ?_;intro w4 b4 g4;obtain⟨f1,f2,f3,f4⟩:=b4.four);have hbe:=below_own M.bel g4 (by rw[HSZ.out];exact Nat.le_succ _);have HBE:=ZH hbe;have HQ4:=ZH (HQ.out.boxed ((M.k (i:=0) rfl).box rfl) g4);exact bodyPost_ret (v:=qv 0 A0 c0 B0 d0) (by simp[results,Tryz.results40,go_sem,f1,f2,f3,f4]) rfl ⟨HSU.out.trans (FSt.of HBE.out),0,A0,c0,B0,d0,true,rfl,HQ4.out,HBU.out.below HBE.out ZL,.inr ⟨HO.out,rfl⟩⟩
theorem fmust_any {w:World}{g:Nat}{m':Pa}{p:Pg}{Y:Option Addr}{n' c':Nat}{q:Rat}{A':Option Addr}{cA:Nat}{B':Option Addr}{cB:Nat}{b:Bool}{o:Option Rat}{n:Bool}{A:Option Addr}{l c:Nat}{m:Bool}{B:Option Addr}{k d:Nat}{x:Int}(hb:Blk w g tyFl (flC m' p Y n' c' q A' cA B' cB b))(ht:ToldQ w o n A l c m B k d x):
 Calls Tryz.prog 40 #[vptr g,rv n A l c m B k d,.int .i64 x] w fun e w'=>FSt g w w'∧∃r A1 c1 B1 d1 b',e= .returned (qv r A1 c1 B1 d1)∧QR w' A1 c1 B1 d1 r∧Blk w' g tyFl (flC m' p Y n' c' q A' cA B' cB b')∧(o=some r∧b'=b∨o=none∧b'=true):=fmust_gen hb ht rfl
end Go.Proofs.YtecfcjdgmpopjaaGreat

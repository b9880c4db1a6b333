import Derived.Test.YtpnmcacndjkfaaaGreatEl
import Derived.Test.YtpnmcacndjkfaaaGreatEo
import Derived.Deep.Upon
set_option maxHeartbeats 40000000
set_option maxRecDepth 100000
set_option linter.unusedSimpArgs false
set_option linter.unusedVariables false
namespace Go.Proofs.YtpnmcacndjkfaaaGreat
open Go.RowKit Num
theorem add_at (g o j:Nat):(⟨g,o,none⟩:Addr).add j=⟨g,o+j,none⟩:=by
 by_cases e:j=0
 ·subst e;simp[Addr.add]
 ·simp[Addr.add,e]
abbrev iz (z:Int):Value:= .int .i64 z
def IOwn (w:World)(base:Nat)(v:Value)(l:List Int):Prop:=w.ownsRow base 2 1 v l.length (l.map iz)
theorem IOwn.nil (w:World)(base:Nat):IOwn w base (.slice none 0 0) []:=World.ownsRow_nil w base _ 1
theorem IOwn.slice {w:World}{base:Nat}{v:Value}{l:List Int}(h:IOwn w base v l):∃A c,v= .slice A l.length c:=by
 rcases h.2 with ⟨h1,h2⟩|⟨g,cap,cur,h1,_⟩
 ·exact⟨none,0,by rw[h1,h2]⟩
 ·exact⟨_,_,h1⟩
theorem IOwn.below {w w':World}{base:Nat}{v:Value}{l:List Int}(h:IOwn w base v l)(q:Below w.heap.size w w'):IOwn w' base v l:=
 World.ownsRow.kept h (grown_of_below q) (Classical.em _)
theorem IOwn.row {w:World}{base:Nat}{A:Option Addr}{c:Nat}{l:List Int}(h:IOwn w base (.slice A l.length c) l):IRow w A l:=fun j hj=>by
 rcases h.2 with ⟨h1,h2⟩|⟨g,cap,cur,h1,_⟩
 ·omega
 ·cases h1;refine⟨g,0,rfl,?_⟩;have h2:=World.ownsRow.cells h (g:=g) rfl j (iz (l.getD j 0)) (by
   rw[List.getElem?_map,List.getD_eq_getElem?_getD,List.getElem?_eq_getElem hj];rfl)
  have ea:(⟨g,0,none⟩:Addr).add j=⟨g,0+j,none⟩:=add_at g 0 j;rw[ea]at h2;exact h2
theorem info_fk:(Tryz.prog.info? 2).map (fun i=>(i.zero,i.size,i.bytes))=some (some (.int .i64 0),1,8):=by kernel_rfl
theorem wp_appI_op {o:Oper}{a:Act}{KK:Act→World→Prop}{Q:Exit→Act→World→Prop}(s x:Operand)(w:World)(base:Nat)(v:Value)(xs:List Int)(A:Option Addr)(l:List Int)(c:Nat)(hown:IOwn w base v xs)(hr:IRow w A l)(hb:base≤w.heap.size)(hlen:xs.length≤1000000)(hl:l.length≤1000000)(ho:o.op= .call {callee:= .builtin .append,args:= #[s,x],argTypes:= #[22,22]})(hs:a.eval s=v)(hx:a.eval x= .slice A l.length c)(K:∀v' w',IOwn w' base v' (xs++l)→Below base w w'→KK (a.put o.dst v') w'):o.wp Tryz.prog a w KK Q:=by
 obtain⟨i0,hi,hz0,hz1,hz2⟩:=info_parts info_fk;have hu:Tryz.prog.underlying 22=some (.slice 2):=Tryz.underlying22;have key:∃v' w',(Builtin.append_ #[22,22] o.type #[v,.slice A l.length c]).run Tryz.prog w= .ok v' w'∧IOwn w' base v' (xs++l)∧Below base w w':=by
  cases l with
  |nil=>
   rw[List.append_nil];have hsrc:Src Tryz.prog i0.size 22 (.slice A 0 c) 0 [] w:=by
    cases A with
    |none=>exact Src.ofNil w hu c
    |some ad=>exact Src.ofSlice w hu ad 0 c [] (by simp) (fun j u h=>by cases h) (fun u h=>by cases h)
   rcases hown.2 with ⟨rfl,h2⟩|⟨g,cap,cur,rfl,_,_,hnc,_⟩
   ·exact⟨_,w,run_append_nothing w _ _ _ _ i0 hu hi none 0 0 ZL _ hsrc,hown,Below.refl _ _⟩
   ·exact⟨_,w,run_append_nothing w _ _ _ _ i0 hu hi _ _ _ hnc _ hsrc,hown,Below.refl _ _⟩
  |cons z l=>
   obtain⟨g,off,rfl,_⟩:=hr 0 (by simp);obtain⟨v',w',hr2,r1,r2,_⟩:=run_append_own (P:=Tryz.prog) w base 22 o.type 2 i0 (.int .i64 0) 1 8 hu hi hz0 hz1 hz2 rfl (by decide) v xs.length (xs.map iz) hown ⟨g,off,none⟩ (z::l).length c ((z::l).map iz) (by rw[List.length_map,Nat.mul_one]) (fun j u hj=>by
    rw[List.getElem?_map]at hj;obtain⟨y,hy,rfl⟩:=Option.map_eq_some_iff.1 hj;obtain⟨hjl,he⟩:=List.getElem?_eq_some_iff.1 hy;obtain⟨g',o',e',h'⟩:=hr j hjl;cases e';have e1:(z::l).getD j 0=y:=by rw[List.getD_eq_getElem?_getD,hy];rfl
    have ea:(⟨g,off,none⟩:Addr).add j=⟨g,off+j,none⟩:=add_at g off j;rw[←e1,ea];exact h') (fun u hu'=>by
    obtain⟨y,_,rfl⟩:=List.mem_map.1 hu';rfl) (by unfold maxLen;omega) (by omega) hb
   refine⟨v',w',hr2,?_,(Below.refl base w).grown r2 hb (fun k hk=>(World.ownsRow.lt hown k hk).1)⟩;unfold IOwn;rw[List.length_append,List.map_append];exact r1
 obtain⟨v',w',hr,h1,h2⟩:=key;unfold Oper.wp execOp;simp only[ho,resolve,invoke,builtin,Sem.run_bind,Sem.run_pure,Result.andThen_ok,List.map_toArray,List.map_cons,List.map_nil,hs,hx,hr];exact K v' w' h1 h2
theorem wp_appI {ops:Array Oper}{rest:List Oper}{o:Oper}{a:Act}{Q:Exit→Act→World→Prop}(s x:Operand)(w:World)(base:Nat)(v:Value)(xs:List Int)(A:Option Addr)(l:List Int)(c:Nat)(hown:IOwn w base v xs)(hr:IRow w A l)(hb:base≤w.heap.size)(hlen:xs.length≤1000000)(hl:l.length≤1000000)(hw:Region.wanted o (yielded ops a.tmps)=true)(ho:o.op= .call {callee:= .builtin .append,args:= #[s,x],argTypes:= #[22,22]})(hs:a.eval s=v)(hx:a.eval x= .slice A l.length c)(K:∀v' w',IOwn w' base v' (xs++l)→Below base w w'→wpList Tryz.prog ops Q rest (a.put o.dst v') w'):wpList Tryz.prog ops Q (o::rest) a w:=
 wpList_wanted hw fun KK hKK=>wp_appI_op s x w base v xs A l c hown hr hb hlen hl ho hs hx fun v' w' r1 r2=>hKK _ _ (K v' w' r1 r2)
theorem solve_kind {w:World}{m:Pa}{p:Pg}(hp:PgAt w m p)(hz:PgSz p)(hb:rightPg p=true)(h3:p.lo.length≤3)(h5:p.a.length≤3):Calls Tryz.prog 11 #[.agg (pgC m p),.int .i64 10000] w fun e w'=>Below w.heap.size w w'∧∃(k:Int)(AX:Option Addr)(lX cX:Nat)(s1:Bool)(A1:Option Addr)(lA cA:Nat)(B1:Option Addr)(lB cB:Nat)(AY:Option Addr)(lY cY:Nat),(k=1∨k=2)∧e= .returned (.tuple #[.agg #[.int .i64 k,.slice AX lX cX,.bool s1,.slice A1 lA cA,.bool false,.slice B1 lB cB,.slice AY lY cY],.int .i64 0]):=by
 refine(solve_good (n:=10000) hp hz hb).mono ?_;rintro e w' ⟨v,rfl,hav,hq⟩;refine⟨hq,?_⟩;have hk:=solve_ends hb h3 h5;rcases solve_cases (P:=10000) hb with ⟨x,y,q,h1,_⟩|⟨y,h1,_⟩|h1
 ·rw[h1]at hav;obtain⟨AX,cX,AY,cY,k1,k2,A,c,B,d,rfl,k3⟩:=hav;exact⟨_,_,_,_,_,_,_,_,_,_,_,_,_,_,.inl rfl,rfl⟩
 ·rw[h1]at hav;obtain⟨AX,cX,AY,cY,k1,k2,rfl⟩:=hav;exact⟨_,_,_,_,_,_,_,_,_,_,_,_,_,_,.inr rfl,rfl⟩
 ·rw[h1]at hk;rcases hk with hk|hk
  ·exact absurd hk (by show ¬(3:Int)=1;decide)
  ·exact absurd hk (by show ¬(3:Int)=2;decide)
theorem plexEnds_use (w:World)(m:Pa)(p:Pg)(hp:PgAt w m p):Calls Tryz.prog 5 #[.agg (pgC m p)] w fun e w'=>e= .returned (.bool true)∧Below w.heap.size w w':=by
 have HP:=ZH hp;have M:=(Mem.start w).new tyR (pgC m p);have HSM:=ZH (fun(w':World)(q:Below w.heap.size w w')=>psmall_any (hp.below q));have HRI:=ZH (fun(w':World)(hz:PgSz p)(q:Below w.heap.size w w')=>rpright_any (hp.below q) hz);clear hp;go_enter Tryz.func5,Tryz.ntmps5;go_wp2_with fail;refine(plalive_any _).mono ?_;rintro e w1 ⟨rfl,q1⟩;replace M:=M.below q1;obtain⟨p0,p1,p2,p3,p4⟩:=(M.k (i:=0) rfl).fiveP;go_wp2_with fail;refine(HSM.out _ M.bel).mono ?_;rintro e w2 ⟨rfl,q2⟩;replace M:=M.below q2;clear p0 p1 p2 p3 p4 q1 q2;cases hsm:smallPg p with
 |false=>
  have HM:=ZH M;go_wp2_with fail;exact bodyPost_ret (v:= .bool true) (by simp[results,Tryz.results5,go_sem]) rfl ⟨rfl,HM.out.bel⟩
 |true=>
  have HZ:=ZH (small_sz hsm);clear hsm HSM;obtain⟨p0,p1,p2,p3,p4⟩:=(M.k (i:=0) rfl).fiveP;go_wp2_with fail;refine(HRI.out _ HZ.out M.bel).mono ?_;rintro e w3 ⟨rfl,q3⟩;replace M:=M.below q3;clear q3 p0 p1 p2 p3 p4;obtain⟨p0,p1,p2,p3,p4⟩:=(M.k (i:=0) rfl).fiveP;cases hri:rightPg p with
  |false=>
   have HM:=ZH M;go_wp2_with fail;exact bodyPost_ret (v:= .bool true) (by simp[results,Tryz.results5,go_sem]) rfl ⟨rfl,HM.out.bel⟩
  |true=>
   by_cases h3:p.lo.length≤3
   ·have d3:decide ((3:Int)<(p.lo.length:Int))=false:=decide_eq_false (by omega);by_cases h5:p.a.length≤3
    ·have d5:decide ((3:Int)<(p.a.length:Int))=false:=decide_eq_false (by omega);have HSO:=ZH (fun(w':World)(q:Below w.heap.size w w')=>solve_kind (HP.out.below q) HZ.out hri h3 h5);have HOK:=ZH (ok_of_right hri);have l1:=(M.k (i:=0) rfl).lt;have HM:=ZH M;have P0:=Lk.of p0;have P1:=Lk.of p1;have P3:=Lk.of p3;have P4:=Lk.of p4;have HLO:=ZH ((HP.out.below M.bel).lo);have HHI:=ZH ((HP.out.below M.bel).hi);have HBB:=ZH ((HP.out.below M.bel).b);have HCC:=ZH ((HP.out.below M.bel).c);have h6:p.hi.length≤1000:=by have:=HOK.out.hi;omega
     have h7:p.b.length≤1000:=by have:=HOK.out.b;omega
     have h8:p.c.length≤1000:=by have:=HOK.out.c;omega
     clear hri HRI M;go_upto_region 5 with fail;clear p0 p1 p2 p3 p4;refine region_gen0 (n:=13) (frame:= ?frame1) (fun L s w'=>(L 0=true→s 0= .pointer (some ⟨w.heap.size,0,none⟩))∧(L 1=true→s 1= .slice m.lo.1 p.lo.length m.lo.2)∧(L 3=true→s 3= .pointer (some ⟨w.heap.size,1,none⟩))∧(L 4=true→s 4= .slice m.hi.1 p.hi.length m.hi.2)∧(L 6=true→s 6= .pointer (some ⟨w.heap.size,3,none⟩))∧(L 7=true→s 7= .slice m.b.1 p.b.length m.b.2)∧(L 9=true→s 9= .pointer (some ⟨w.heap.size,4,none⟩))∧(L 10=true→s 10= .slice m.c.1 p.c.length m.c.2)∧(L 2=false→(Below w3.heap.size w3 w'))∧(L 2=true→L 5=false→(Below w3.heap.size w3 w'∧∃A c,s 2= .slice A p.lo.length c∧IOwn w' w3.heap.size (.slice A p.lo.length c) p.lo))∧(L 5=true→L 8=false→(Below w3.heap.size w3 w'∧∃A c,∃l:List Int,l.length≤1004∧s 5= .slice A l.length c∧IOwn w' w3.heap.size (.slice A l.length c) l))∧(L 8=true→L 11=false→(Below w3.heap.size w3 w'∧∃A c,∃l:List Int,l.length≤2004∧s 8= .slice A l.length c∧IOwn w' w3.heap.size (.slice A l.length c) l))∧(L 11=true→L 12=false→(Below w3.heap.size w3 w'∧∃A c,∃l:List Int,l.length≤3004∧s 11= .slice A l.length c∧IOwn w' w3.heap.size (.slice A l.length c) l))∧(L 12=true→(Below w3.heap.size w3 w'∧∃A c,∃l:List Int,l.length≤3004∧s 12= .slice A l.length c∧IOwn w' w3.heap.size (.slice A l.length c) l))) (by kernel_rfl) (by kernel_rfl) (by kernel_rfl) rfl ?_ ?_ ?_ ?_
     case refine_1=>exact⟨fun h=>no_f h,fun h=>no_f h,fun h=>no_f h,fun h=>no_f h,fun h=>no_f h,fun h=>no_f h,fun h=>no_f h,fun h=>no_f h,fun _=>(Read.refl _).drew.below _,fun h=>no_f h,fun h=>no_f h,fun h=>no_f h,fun h=>no_f h,fun h=>no_f h⟩
     case refine_2=>
      intro s;simp only[fr,Act.put,zA,zB,zC,zD,zE,zF,Nat.reduceAdd];rfl
     case refine_3=>
      refine SC 0 1 rfl ?_ (SC 1 2 rfl ?_ (SC 2 3 rfl ?_ (SC 3 4 rfl ?_ (SC 4 5 rfl ?_ (SC 5 6 rfl ?_ (SC 6 7 rfl ?_ (SC 7 8 rfl ?_ (SC 8 9 rfl ?_ (SC 9 10 rfl ?_ (SC 10 11 rfl ?_ (SC 11 12 rfl ?_ (SC 12 13 rfl ?_ Steps.nil))))))))))));all_goals (intro L s w9 hN hU hi hC hS K hK;dsimp only at hK⊢;simp only[Act.put,zD,zE,zF]at hK;obtain⟨h_0,h_1,h_3,h_4,h_6,h_7,h_9,h_10,c_0,c_1,c_2,c_3,c_4,c_5⟩:=hS)
      ·refine ite_of rfl ?_;go_simp;refine hK.out _ _ ?_;exact⟨fun _=>rfl,h_1,h_3,h_4,h_6,h_7,h_9,h_10,c_0,c_1,c_2,c_3,c_4,c_5⟩
      ·have e_0:=h_0 (hN.out 0 rfl);simp only[e_0]at hK⊢;refine ite_of rfl ?_;have hE:Below w3.heap.size w3 w9:=(c_0 (hU.out 2 _ rfl rfl));have u0:=P0 _ hE;go_simp;refine hK.out _ _ ?_;exact⟨h_0,fun _=>rfl,h_3,h_4,h_6,h_7,h_9,h_10,c_0,c_1,c_2,c_3,c_4,c_5⟩
      ·have e_1:=h_1 (hN.out 1 rfl);simp only[e_1]at hK⊢;refine ite_of rfl ?_;have hP:=c_0 hi.out;refine wp_appI_op _ _ w9 w3.heap.size (.slice none 0 0) [] m.lo.1 p.lo m.lo.2 (IOwn.nil _ _) (HLO.out.below hP) hP.size (by decide) (by omega) rfl rfl rfl ?_;intro v4 w4' ho4 hb4;obtain⟨A4,c4,rfl⟩:=ho4.slice;exact hK.out _ _ ⟨h_0,h_1,h_3,h_4,h_6,h_7,h_9,h_10,fun h=>no_t h,fun _ _=>⟨hP.trans hb4,A4,c4,rfl,ho4⟩,fun h=>no_f (Eq.trans (Eq.symm (hU.out 5 _ rfl rfl)) h),fun h=>no_f (Eq.trans (Eq.symm (Shut.no hC 8 5 rfl rfl (hU.out 5 _ rfl rfl))) h),fun h=>no_f (Eq.trans (Eq.symm (Shut.no hC 11 8 rfl rfl (Shut.no hC 8 5 rfl rfl (hU.out 5 _ rfl rfl)))) h),fun h=>no_f (Eq.trans (Eq.symm (Shut.no hC 12 11 rfl rfl (Shut.no hC 11 8 rfl rfl (Shut.no hC 8 5 rfl rfl (hU.out 5 _ rfl rfl))))) h)⟩
      ·refine ite_of rfl ?_;go_simp;refine hK.out _ _ ?_;exact⟨h_0,h_1,fun _=>rfl,h_4,h_6,h_7,h_9,h_10,c_0,c_1,c_2,c_3,c_4,c_5⟩
      ·have e_3:=h_3 (hN.out 3 rfl);simp only[e_3]at hK⊢;refine ite_of rfl ?_;have hE:Below w3.heap.size w3 w9:=(match hL0:L 2 with|false=>(c_0 hL0)|true=>(c_1 hL0 (hU.out 5 _ rfl rfl)).1);have u0:=P1 _ hE;go_simp;refine hK.out _ _ ?_;exact⟨h_0,h_1,h_3,fun _=>rfl,h_6,h_7,h_9,h_10,c_0,c_1,c_2,c_3,c_4,c_5⟩
      ·have e_4:=h_4 (hN.out 4 rfl);simp only[e_4]at hK⊢;refine ite_of rfl ?_;have hP:=c_1 (hN.out 2 rfl) hi.out;obtain⟨hP0,A2,c2,e2,ho2⟩:=hP;simp only[e2]at hK⊢;refine wp_appI_op _ _ w9 w3.heap.size (.slice A2 p.lo.length c2) p.lo m.hi.1 p.hi m.hi.2 ho2 (HHI.out.below hP0) hP0.size (by omega) (by omega) rfl rfl rfl ?_;intro v4 w4' ho4 hb4;obtain⟨A4,c4,rfl⟩:=ho4.slice;exact hK.out _ _ ⟨h_0,h_1,h_3,h_4,h_6,h_7,h_9,h_10,fun h=>no_f (Eq.trans (Eq.symm h) (hN.out 2 rfl)),fun _ h=>no_t h,fun _ _=>⟨hP0.trans hb4,A4,c4,_,by rw[List.length_append];omega,rfl,ho4⟩,fun h=>no_f (Eq.trans (Eq.symm (hU.out 8 _ rfl rfl)) h),fun h=>no_f (Eq.trans (Eq.symm (Shut.no hC 11 8 rfl rfl (hU.out 8 _ rfl rfl))) h),fun h=>no_f (Eq.trans (Eq.symm (Shut.no hC 12 11 rfl rfl (Shut.no hC 11 8 rfl rfl (hU.out 8 _ rfl rfl)))) h)⟩
      ·refine ite_of rfl ?_;go_simp;refine hK.out _ _ ?_;exact⟨h_0,h_1,h_3,h_4,fun _=>rfl,h_7,h_9,h_10,c_0,c_1,c_2,c_3,c_4,c_5⟩
      ·have e_6:=h_6 (hN.out 6 rfl);simp only[e_6]at hK⊢;refine ite_of rfl ?_;have hE:Below w3.heap.size w3 w9:=(match hL0:L 2 with|false=>(c_0 hL0)|true=>(match hL1:L 5 with|false=>(c_1 hL0 hL1).1|true=>(c_2 hL1 (hU.out 8 _ rfl rfl)).1));have u0:=P3 _ hE;go_simp;refine hK.out _ _ ?_;exact⟨h_0,h_1,h_3,h_4,h_6,fun _=>rfl,h_9,h_10,c_0,c_1,c_2,c_3,c_4,c_5⟩
      ·have e_7:=h_7 (hN.out 7 rfl);simp only[e_7]at hK⊢;refine ite_of rfl ?_;have hP:=c_2 (hN.out 5 rfl) hi.out;obtain⟨hP0,A2,c2,l2,hl2,e2,ho2⟩:=hP;simp only[e2]at hK⊢;refine wp_appI_op _ _ w9 w3.heap.size (.slice A2 l2.length c2) l2 m.b.1 p.b m.b.2 ho2 (HBB.out.below hP0) hP0.size (by omega) (by omega) rfl rfl rfl ?_;intro v4 w4' ho4 hb4;obtain⟨A4,c4,rfl⟩:=ho4.slice;exact hK.out _ _ ⟨h_0,h_1,h_3,h_4,h_6,h_7,h_9,h_10,fun h=>no_f (Eq.trans (Eq.symm h) (hC.out 5 _ rfl (hN.out 5 rfl) 2 rfl)),fun _ h=>no_f (Eq.trans (Eq.symm h) (hN.out 5 rfl)),fun _ h=>no_t h,fun _ _=>⟨hP0.trans hb4,A4,c4,_,by rw[List.length_append];omega,rfl,ho4⟩,fun h=>no_f (Eq.trans (Eq.symm (hU.out 11 _ rfl rfl)) h),fun h=>no_f (Eq.trans (Eq.symm (Shut.no hC 12 11 rfl rfl (hU.out 11 _ rfl rfl))) h)⟩
      ·refine ite_of rfl ?_;go_simp;refine hK.out _ _ ?_;exact⟨h_0,h_1,h_3,h_4,h_6,h_7,fun _=>rfl,h_10,c_0,c_1,c_2,c_3,c_4,c_5⟩
      ·have e_9:=h_9 (hN.out 9 rfl);simp only[e_9]at hK⊢;refine ite_of rfl ?_;have hE:Below w3.heap.size w3 w9:=(match hL0:L 2 with|false=>(c_0 hL0)|true=>(match hL1:L 5 with|false=>(c_1 hL0 hL1).1|true=>(match hL2:L 8 with|false=>(c_2 hL1 hL2).1|true=>(c_3 hL2 (hU.out 11 _ rfl rfl)).1)));have u0:=P4 _ hE;go_simp;refine hK.out _ _ ?_;exact⟨h_0,h_1,h_3,h_4,h_6,h_7,h_9,fun _=>rfl,c_0,c_1,c_2,c_3,c_4,c_5⟩
      ·have e_10:=h_10 (hN.out 10 rfl);simp only[e_10]at hK⊢;refine ite_of rfl ?_;have hP:=c_3 (hN.out 8 rfl) hi.out;obtain⟨hP0,A2,c2,l2,hl2,e2,ho2⟩:=hP;simp only[e2]at hK⊢;refine wp_appI_op _ _ w9 w3.heap.size (.slice A2 l2.length c2) l2 m.c.1 p.c m.c.2 ho2 (HCC.out.below hP0) hP0.size (by omega) (by omega) rfl rfl rfl ?_;intro v4 w4' ho4 hb4;obtain⟨A4,c4,rfl⟩:=ho4.slice;exact hK.out _ _ ⟨h_0,h_1,h_3,h_4,h_6,h_7,h_9,h_10,fun h=>no_f (Eq.trans (Eq.symm h) (hC.out 5 _ rfl (hC.out 8 _ rfl (hN.out 8 rfl) 5 rfl) 2 rfl)),fun _ h=>no_f (Eq.trans (Eq.symm h) (hC.out 8 _ rfl (hN.out 8 rfl) 5 rfl)),fun _ h=>no_f (Eq.trans (Eq.symm h) (hN.out 8 rfl)),fun _ h=>no_t h,fun _ _=>⟨hP0.trans hb4,A4,c4,_,by rw[List.length_append];omega,rfl,ho4⟩,fun h=>no_f (Eq.trans (Eq.symm (hU.out 12 _ rfl rfl)) h)⟩
      ·refine ite_of rfl ?_;have hP:=c_4 (hN.out 11 rfl) hi.out;obtain⟨hP0,A2,c2,l2,hl2,e2,ho2⟩:=hP;simp only[e2]at hK⊢;go_simp;exact hK.out _ _ ⟨h_0,h_1,h_3,h_4,h_6,h_7,h_9,h_10,fun h=>no_f (Eq.trans (Eq.symm h) (hC.out 5 _ rfl (hC.out 8 _ rfl (hC.out 11 _ rfl (hN.out 11 rfl) 8 rfl) 5 rfl) 2 rfl)),fun _ h=>no_f (Eq.trans (Eq.symm h) (hC.out 8 _ rfl (hC.out 11 _ rfl (hN.out 11 rfl) 8 rfl) 5 rfl)),fun _ h=>no_f (Eq.trans (Eq.symm h) (hC.out 11 _ rfl (hN.out 11 rfl) 8 rfl)),fun _ h=>no_f (Eq.trans (Eq.symm h) (hN.out 11 rfl)),fun _ h=>no_t h,fun _=>⟨hP0,A2,c2,l2,hl2,rfl,ho2⟩⟩
     intro L s w9 hall hS;obtain⟨h_0,h_1,h_3,h_4,h_6,h_7,h_9,h_10,c_0,c_1,c_2,c_3,c_4,c_5⟩:=hS;have hPm:=c_5 (hall 12 (by decide));clear hall h_0 h_1 h_3 h_4 h_6 h_7 h_9 h_10 c_0 c_1 c_2 c_3 c_4 c_5;obtain⟨hq5,A5,c5,l5,hl5,e5,ho5⟩:=hPm;simp only[e5];have HB5:=ZH hq5;have HO5:=ZH ho5;have HM3:=HM;have HP3:=ZH (HP.out.below HM.out.bel);have HPB:=ZH (HM.out.below hq5);clear hq5 ho5 e5 P0 P1 P3 P4 HLO HHI HBB HCC HM;have h9:∀i,i<p.a.length→(p.a.getD i []).length≤1000:=fun i hi=>by have:=HOK.out.rows i hi;omega
     obtain⟨p0,p1,p2,p3,p4⟩:=(HPB.out.k (i:=0) rfl).fiveP;obtain⟨W5,rfl⟩:∃W,W=w9:=⟨_,rfl⟩;go_wp2_with fail;go_loopg [3,46] p.a.length (fun k v pp wr=>∃(i:Nat)(l:List Int)(A:Option Addr)(c n:Nat),k=p.a.length-i∧i≤p.a.length∧pp= .int .i64 (i:Nat)∧v= .slice A n c∧n=l.length∧l.length≤3004+1000*i∧Hid (IOwn wr w3.heap.size (.slice A l.length c) l)∧Hid (Below w3.heap.size W5 wr))
     case atStart=>exact⟨0,l5,A5,c5,_,rfl,Nat.zero_le _,rfl,rfl,rfl,by omega,HO5.out,Below.refl _ _⟩
     case round=>
      clear HO5 p0 p1 p2 p3 p4 hl5;obtain⟨i,l,A,c,n,hk,hi,rfl,rfl,rfl,hll,HO,HQ⟩:=hrel;have HB:=ZH (HB5.out.trans HQ.out);obtain⟨p0,p1,p2,p3,p4⟩:=(((HM3.out.below HB.out).k (i:=0) rfl)).fiveP;by_cases hlt:i<p.a.length
      ·have d1:decide ((i:Int)<(p.a.length:Int))=true:=decide_eq_true (by omega);obtain⟨ga,oa,hA2,ci⟩:=(HP3.out.ap.below HB.out) i hlt;replace ci:wr.cell? ⟨ga,oa+i,none⟩=some (.slice (m.rs.getD i (none,0)).1 (p.a.getD i []).length (m.rs.getD i (none,0)).2):=ci;rw[hA2]at p2;have HR:=ZH ((HP3.out.ar i hlt).below HB.out);have h10:=h9 i hlt;have hbs:w3.heap.size≤wr.heap.size:=HB.out.size;clear hA2;generalize (m.rs.getD i (none,0)).1=AR at*;generalize (m.rs.getD i (none,0)).2=cR at*;generalize p.a.getD i []=row at*;go_wp2_with (at_builtin;refine wp_appI _ _ wr w3.heap.size (.slice A l.length c) l AR row cR HO.out HR.out hbs (by omega) (by omega) rfl rfl rfl rfl ?_;intro v7 w7 r1 r2;obtain⟨A7,c7,rfl⟩:=r1.slice);go_roundg (p.a.length-(i+1))
       case measure=>omega
       case rel=>exact⟨i+1,l++row,A7,c7,l.length+row.length,rfl,by omega,by simp,rfl,by rw[List.length_append],by rw[List.length_append];omega,r1,HQ.out.trans r2⟩
      ·have d1:decide ((i:Int)<(p.a.length:Int))=false:=decide_eq_false (by omega);have HL:=ZH HO.out.row;have hll2:l.length≤1000000:=by omega
       obtain⟨W6,rfl⟩:∃W,W=wr:=⟨_,rfl⟩;clear HO;go_wp2_with fail;go_loopg [59] l.length (fun k pp wr=>∃(j:Nat),k=l.length-j∧j≤l.length∧pp= .int .i64 (j:Nat)∧Hid (Below W6.heap.size W6 wr))
       case atStart=>exact⟨0,rfl,Nat.zero_le _,rfl,Below.refl _ _⟩
       case round=>
        clear p0 p1 p2 p3 p4 d1;obtain⟨j,hk2,hj,rfl,HQ2⟩:=hrel;have HB2:=ZH (below_trans HB.out HQ2.out);obtain⟨p0,p1,p2,p3,p4⟩:=(((HM3.out.below HB2.out).k (i:=0) rfl)).fiveP;by_cases hlj:j<l.length
        ·have d1:decide ((j:Int)<(l.length:Int))=true:=decide_eq_true (by omega);obtain⟨g,o,rfl,cj⟩:=(HL.out.below HQ2.out) j hlj;replace cj:wr.cell? ⟨g,o+j,none⟩=some (.int .i64 (l.getD j 0)):=cj;generalize l.getD j 0=z at*;have HME:=ZH (below_trans HM3.out.bel HB2.out);by_cases h11:z< -100
         ·have d2:decide (z< -100)=true:=decide_eq_true h11;go_wp2_with fail;exact bodyPost_ret (v:= .bool true) (by simp[results,Tryz.results5,go_sem]) rfl ⟨rfl,HME.out⟩
         ·have d2:decide (z< -100)=false:=decide_eq_false h11;by_cases h12:100<z
          ·have d4:decide (100<z)=true:=decide_eq_true h12;go_wp2_with fail;exact bodyPost_ret (v:= .bool true) (by simp[results,Tryz.results5,go_sem]) rfl ⟨rfl,HME.out⟩
          ·have d4:decide (100<z)=false:=decide_eq_false h12;go_wp2_with fail;go_roundg (l.length-(j+1))
           case measure=>omega
           case rel=>exact⟨j+1,rfl,by omega,by simp,HQ2.out⟩
        ·have d1:decide ((j:Int)<(l.length:Int))=false:=decide_eq_false (by omega);have M:=HM3.out.below HB2.out;clear HL HQ2 HB2 HB HQ HPB HB5;go_wp2_with fail;refine ptheirs_any.mono ?_;rintro e w7 ⟨rfl,q7⟩;replace M:=M.below q7;clear q7 p0 p1 p2 p3 p4;go_wp2_with fail;refine(HSO.out _ M.bel).mono ?_;rintro e w8 ⟨q8,k,AX,lX,cX,s1,A1,lA,cA,B1,lB,cB,AY,lY,cY,hk12,rfl⟩;replace M:=M.below q8;have l10:=(M.k (i:=0) rfl).lt;replace M:=M.new tyA #[.int .i64 k,.slice AX lX cX,.bool s1,.slice A1 lA cA,.bool false,.slice B1 lB cB,.slice AY lY cY];obtain⟨x0,x1,x2,x3,x4,x5,x6⟩:=(M.k (i:=0) rfl).seven;have HMM:=ZH M.bel;clear M q8 l10;rcases hk12 with rfl|rfl
         ·go_wp2_with fail;exact bodyPost_ret (v:= .bool true) (by simp[results,Tryz.results5,go_sem]) rfl ⟨rfl,HMM.out⟩
         ·go_wp2_with fail;exact bodyPost_ret (v:= .bool true) (by simp[results,Tryz.results5,go_sem]) rfl ⟨rfl,HMM.out⟩
    ·have d5:decide ((3:Int)<(p.a.length:Int))=true:=decide_eq_true (by omega);have HM:=ZH M;go_wp2_with fail;exact bodyPost_ret (v:= .bool true) (by simp[results,Tryz.results5,go_sem]) rfl ⟨rfl,HM.out.bel⟩
   ·have d3:decide ((3:Int)<(p.lo.length:Int))=true:=decide_eq_true (by omega);have HM:=ZH M;go_wp2_with fail;exact bodyPost_ret (v:= .bool true) (by simp[results,Tryz.results5,go_sem]) rfl ⟨rfl,HM.out.bel⟩
end Go.Proofs.YtpnmcacndjkfaaaGreat

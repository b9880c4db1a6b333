import Derived.Test.YtecfcjdgmpopjaaGreatHq
set_option maxHeartbeats 16000000
set_option maxRecDepth 100000
set_option linter.unusedSimpArgs false
set_option linter.unusedVariables false
namespace Go.Proofs.YtecfcjdgmpopjaaGreat
open Go.RowKit Num
theorem putD_ab (p:Pg)(r:List Int)(b:Int):(putD p r b).a.length≤p.a.length+1∧((p.b.length=p.a.length)→(putD p r b).b.length=(putD p r b).a.length)∧(putD p r b).lo=p.lo:=by
 unfold putD;split
 ·exact⟨by simp,fun h=>by simp[h],rfl⟩
 ·exact⟨Nat.le_succ _,fun h=>h,rfl⟩
theorem rowsD_ab (p:Pg)(c:Cn):(rowsD p c).a.length≤p.a.length+2∧((p.b.length=p.a.length)→(rowsD p c).b.length=(rowsD p c).a.length)∧(rowsD p c).lo=p.lo:=by
 unfold rowsD;split
 ·exact⟨Nat.le_succ_of_le (putD_ab _ _ _).1,(putD_ab _ _ _).2⟩
 ·split
  ·have h1:=putD_ab p (rowP (List.replicate p.lo.length 0) 1 c.a c.x) c.c;generalize putD p (rowP (List.replicate p.lo.length 0) 1 c.a c.x) c.c=q at*;have h2:=putD_ab q ((rowP (List.replicate p.lo.length 0) 1 c.a c.x).map fun z=> -z) (-c.c);exact⟨by omega,fun h=>h2.2.1 (h1.2.1 h),h2.2.2.trans h1.2.2⟩
  ·split
   ·exact⟨Nat.le_succ_of_le (putD_ab _ _ _).1,(putD_ab _ _ _).2⟩
   ·exact⟨by omega,fun h=>h,rfl⟩
theorem mostD_step {l:List Int}{j:Nat}(h:j<l.length)(n:Int):mostD n (l.drop j)=mostD (if l.getD j 0= -1 then n+1 else n) (l.drop (j+1)):=by
 rw[List.drop_eq_getElem_cons h,gE,gG h];rfl
theorem negL_within {l:List Int}(h:l.all withinB=true):(negL l).all withinB=true:=by
 refine List.all_eq_true.2 fun z hz=> ?_;obtain⟨y,hy,rfl⟩:=List.mem_map.1 hz;have:=within_in (List.all_eq_true.1 h y hy);unfold withinB;rw[Bool.and_eq_true,decide_eq_true_eq,decide_eq_true_eq];omega
theorem rowP_in:∀(a x row:List Int)(s:Int)(B:Int),0≤B→(∀z∈row,-B≤z∧z≤B)→a.all withinB=true→(s=1∨s= -1)→∀z∈rowP row s a x,-(B+1048576*(a.length:Int))≤z∧z≤B+1048576*(a.length:Int)
 |[],x,row,s,B,_,h,_,_=>by
  have e1:rowP row s [] x=row:=by cases x<;>rfl
  rw[e1];intro z hz;have:=h z hz;rw[List.length_nil];omega
 |a::l,[],row,s,B,h0,h,_,_=>fun z hz=>by
  have h2:=h z hz;rw[List.length_cons];omega
 |a::l,x::xs,row,s,B,h0,h,hw,hs=>fun z hz=>by
  rw[List.all_cons,Bool.and_eq_true]at hw;have ha:=within_in hw.1;have hg: -B≤row.getD x.toNat 0∧row.getD x.toNat 0≤B:=by
   by_cases hx:x.toNat<row.length
   ·exact h _ (memD hx)
   ·rw[gE,List.getElem?_eq_none (by omega)];exact⟨by show-B≤0;omega,h0⟩
  have hu: -(B+1048576)≤row.getD x.toNat 0+s*a∧row.getD x.toNat 0+s*a≤B+1048576:=by
   rcases hs with rfl|rfl<;>omega
  have:=rowP_in l xs (row.set x.toNat (row.getD x.toNat 0+s*a)) s (B+1048576) (by omega) (mem_set_in h (by omega) hu) hw.2 hs z hz;rw[List.length_cons];omega
theorem rrows_any {w:World}{m:Pa}{p:Pg}{x aa:Adr}{c:Cn}{doms:List (List (Int×Int))}(hp:PgAt w m p)(hc:CnAt w x aa c)(hm:mayC doms c=true)(hd:p.lo.length=doms.length)(hn:p.lo.length≤64)(hk:p.a.length≤900)(hb:p.b.length=p.a.length):Calls Tryz.prog 34 #[.agg (pgC m p),.agg (cnC x aa c)] w fun e w'=>∃m',e= .returned (.agg (pgC m' (rowsD p c)))∧PgAt w' m' (rowsD p c)∧Below w.heap.size w w'∧NewA w.heap.size m p m' (rowsD p c):=by
 obtain⟨g1,g2,g3,g4,g5⟩:=may_rows hm;have M:=(((Mem.start w).new 35 (pgC m p)).newAt (g:=w.heap.size+1) (by simp) 69 (cnC x aa c)).newAt (g:=w.heap.size+2) (by simp) 35 zPD;have HPUT:Hid (∀(w':World)(m':Pa)(q:Pg)(R:Adr)(row:List Int)(b:Int),PgAt w' m' q→IRow w' R.1 row→row.length=p.lo.length→q.a.length≤950→q.b.length=q.a.length→Calls Tryz.prog 61 #[.agg (pgC m' q),.slice R.1 p.lo.length R.2,.int .i64 b] w' fun e w2=>∃m2,e= .returned (.agg (pgC m2 (putD q row b)))∧PgAt w2 m2 (putD q row b)∧Below w'.heap.size w' w2∧NewA w'.heap.size m' q m2 (putD q row b)):=fun w' m' q R row b h1 h2 h3 h4 h5=>by
  have:=rput_any (b:=b) h1 h2 (by omega) (by omega) h5;rw[h3]at this;exact this
 have HROW:Hid (∀(w':World)(a':Adr)(l:List Int),Below w.heap.size w w'→IRow w' a'.1 l→l.length=c.a.length→l.all withinB=true→c.k=1∨c.k=2∨c.k=11→Calls Tryz.prog 62 #[.slice a'.1 c.a.length a'.2,.slice x.1 c.x.length x.2,.int .i64 (p.lo.length:Nat)] w' fun e w2=>∃B d,e= .returned (.slice B p.lo.length d)∧IRow w2 B (rowP (List.replicate p.lo.length 0) 1 l c.x)∧Below w'.heap.size w' w2):=fun w' a' l h1 h2 h3 h4 h5=>by
  have e:=g1 h5;rw[←h3]at e⊢;exact rrow_any (aa:=a') h2 (hc.below h1).x (by omega) (by omega) (by omega) (by rw[hd];exact g3) h4 (by omega)
 have HOPP:Hid (∀(w':World)(A':Option Addr)(c' nn:Nat)(l:List Int),IRow w' A' l→l.length≤64→l.length=nn→(∀z∈l,-1099511627776≤z∧z≤1099511627776)→Calls Tryz.prog 63 #[.slice A' nn c'] w' fun e w2=>∃B d,e= .returned (.slice B nn d)∧IRow w2 B (negL l)∧Below w'.heap.size w' w2):=fun w' A' c' nn l h1 h2 h3 h4=>by
  have:=ropposite_any (c:=c') h1 (by omega) h4;rw[h3]at this;exact this
 have HP0:=ZH hp;have HP:=ZH fun(w':World)(q:Below w.heap.size w w')=>hp.below q;have HA:=ZH fun(w':World)(q:Below w.heap.size w w')=>(hc.below q).a;have HGA:=ZH g1;have cc:=within_in g5;have HWA:=ZH g4;have HM:=ZH M;have HB:=ZH hb;have HRL:Hid (∀l:List Int,(rowP (List.replicate p.lo.length 0) 1 l c.x).length=p.lo.length):=fun l=>by rw[rowP_len,List.length_replicate]
 obtain⟨P',hP'⟩:∃P',rowsD p c=P':=⟨_,rfl⟩;rw[hP'];have HPP:Hid (P'=if c.k=2 then putD p (rowP (List.replicate p.lo.length 0) 1 c.a c.x) c.c else if c.k=1 then putD (putD p (rowP (List.replicate p.lo.length 0) 1 c.a c.x) c.c) (negL (rowP (List.replicate p.lo.length 0) 1 c.a c.x)) (-c.c) else if c.k=11 then putD p (rowP (List.replicate p.lo.length 0) 1 (negL c.a) c.x) (mostD (-1) c.a) else p):=by
  show _=_;rw[←hP'];rfl
 obtain⟨k,X,A,C⟩:=c;replace cc: -1048576≤C∧C≤1048576:=cc;replace g1:k=1∨k=2∨k=11→A.length≤32:=fun h=>by
  have e:=g1 h;have:X.length≤32:=g2;have:A.length=X.length:=e;omega
 have HGL:=ZH g1;obtain⟨m0,m1,m2,m3,m4⟩:=(M.k (i:=2) rfl).fiveP;obtain⟨c0,c1,c2,c3⟩:=(M.k (i:=1) rfl).four;clear hP' hp hc hm hd hb g1 g2 g3 g4 g5 M;by_cases k2:k=2
 ·have d1:(k==2)=true:=beq_iff_eq.2 k2;have HE:Hid (P'=putD p (rowP (List.replicate p.lo.length 0) 1 A X) C):=by
   show _=_;rw[HPP.out,if_pos k2]
  have HKK:Hid (k=1∨k=2∨k=11):= .inr (.inl k2);clear k2;go_enter Tryz.func34,Tryz.ntmps34;go_upto_region 4 with fail;refine region_gen0 (n:=11) (frame:= ?frame1) (fun L s w'=>Vs [oF (.agg (pgC m p)),oP (w.heap.size+1) 2,oF (.slice aa.1 A.length aa.2),oP (w.heap.size+1) 1,oF (.slice x.1 X.length x.2),oI ((p.lo.length:Nat)),none,oP (w.heap.size+1) 3,oI C,none,none] L s∧(L 6=false→(Mem w w' [(w.heap.size+2,35,zPD),(w.heap.size+1,69,cnC x aa ⟨k,X,A,C⟩),(w.heap.size,35,pgC m p)] []))∧(L 6=true→L 9=false→(Mem w w' [(w.heap.size+2,35,zPD),(w.heap.size+1,69,cnC x aa ⟨k,X,A,C⟩),(w.heap.size,35,pgC m p)] []∧∃B d,s 6= .slice B p.lo.length d∧IRow w' B (rowP (List.replicate p.lo.length 0) 1 A X)))∧(L 9=true→L 10=false→(∃m',s 9= .agg (pgC m' P')∧PgAt w' m' P'∧NewA (w.heap.size+3) m p m' P'∧Mem w w' [(w.heap.size+2,35,zPD),(w.heap.size+1,69,cnC x aa ⟨k,X,A,C⟩),(w.heap.size,35,pgC m p)] []))∧(L 10=true→(∃m',PgAt w' m' P'∧NewA w.heap.size m p m' P'∧Mem w w' [(w.heap.size+2,35,pgC m' P'),(w.heap.size+1,69,cnC x aa ⟨k,X,A,C⟩),(w.heap.size,35,pgC m p)] []))) (by kernel_rfl) (by kernel_rfl) (by kernel_rfl) rfl ?_ ?_ ?_ ?_
  case refine_1=>exact⟨fun _ _ _ h=>no_f h,fun _=>HM.out.drew,fun h=>no_f h,fun h=>no_f h,fun h=>no_f h⟩
  case refine_2=>
   intro s;simp only[fr,Act.put,zA,zB,zC,zD,zE,zF,Nat.reduceAdd];rfl
  case refine_3=>
   iterate 11 (refine SN ?_ ?_;rotate_left)
   exact Steps.nil;all_goals (intro L s w9 hN hU hi hC hS K hK;dsimp only at hK⊢;simp only[Act.put,zD,zE,zF]at hK;obtain⟨hV,c_0,c_1,c_2,c_3⟩:=hS;refine ite_of rfl ?_)
   ·have hE:Mem w w9 [(w.heap.size+2,35,zPD),(w.heap.size+1,69,cnC x aa ⟨k,X,A,C⟩),(w.heap.size,35,pgC m p)] []:=(match hL0:L 6 with|false=>(c_0 hL0)|true=>(c_1 hL0 (hU.out 9 _ rfl rfl)).1);obtain⟨u0,u1,u2,u3,u4⟩:=(hE.k (i:=2) rfl).fiveP;go_simp;exact hK.out _ _ ⟨hV.put 0,c_0,c_1,c_2,c_3⟩
   ·go_simp;exact hK.out _ _ ⟨hV.put 1,c_0,c_1,c_2,c_3⟩
   ·rw[hV.at 1 (hN.out 1 rfl)]at hK⊢;have hE:Mem w w9 [(w.heap.size+2,35,zPD),(w.heap.size+1,69,cnC x aa ⟨k,X,A,C⟩),(w.heap.size,35,pgC m p)] []:=(c_0 (hU.out 6 _ rfl rfl));obtain⟨u0,u1,u2,u3⟩:=(hE.k (i:=1) rfl).four;go_simp;exact hK.out _ _ ⟨hV.put 2,c_0,c_1,c_2,c_3⟩
   ·go_simp;exact hK.out _ _ ⟨hV.put 3,c_0,c_1,c_2,c_3⟩
   ·rw[hV.at 3 (hN.out 3 rfl)]at hK⊢;have hE:Mem w w9 [(w.heap.size+2,35,zPD),(w.heap.size+1,69,cnC x aa ⟨k,X,A,C⟩),(w.heap.size,35,pgC m p)] []:=(c_0 (hU.out 6 _ rfl rfl));obtain⟨u0,u1,u2,u3⟩:=(hE.k (i:=1) rfl).four;go_simp;exact hK.out _ _ ⟨hV.put 4,c_0,c_1,c_2,c_3⟩
   ·go_simp;exact hK.out _ _ ⟨hV.put 5,c_0,c_1,c_2,c_3⟩
   ·rw[hV.at 2 (hN.out 2 rfl)]at hK⊢;rw[hV.at 4 (hN.out 4 rfl)]at hK⊢;rw[hV.at 5 (hN.out 5 rfl)]at hK⊢;have hP:=c_0 hi.out;go_simp;go_at_call 62;refine(HROW.out _ aa A hP.bel (HA.out _ hP.bel) rfl HWA.out HKK.out).mono ?_;rintro e9 w10 ⟨B,d,rfl,hr,q⟩;exact hK.out _ _ ⟨hV.eff 6,fun h=>no_t h,fun _ _=>⟨hP.below q,B,d,rfl,hr⟩,fun h=>no_f (Eq.trans (Eq.symm (hU.out 9 _ rfl rfl)) h),fun h=>no_f (Eq.trans (Eq.symm (Shut.no hC 10 9 rfl rfl (hU.out 9 _ rfl rfl))) h)⟩
   ·go_simp;exact hK.out _ _ ⟨hV.put 7,c_0,c_1,c_2,c_3⟩
   ·rw[hV.at 7 (hN.out 7 rfl)]at hK⊢;have hE:Mem w w9 [(w.heap.size+2,35,zPD),(w.heap.size+1,69,cnC x aa ⟨k,X,A,C⟩),(w.heap.size,35,pgC m p)] []:=(match hL0:L 6 with|false=>(c_0 hL0)|true=>(c_1 hL0 (hU.out 9 _ rfl rfl)).1);obtain⟨u0,u1,u2,u3⟩:=(hE.k (i:=1) rfl).four;go_simp;exact hK.out _ _ ⟨hV.put 8,c_0,c_1,c_2,c_3⟩
   ·rw[hV.at 0 (hN.out 0 rfl)]at hK⊢;rw[hV.at 8 (hN.out 8 rfl)]at hK⊢;have hP:=c_1 (hN.out 6 rfl) hi.out;obtain⟨hP0,B,d,e6,hr⟩:=hP;have hz9:=(Nat.succ_le_of_lt (hP0.k (i:=0) rfl).lt);simp only[e6]at hK⊢;go_simp;go_at_call 61;refine(HPUT.out _ m p (B,d) _ C (HP.out _ hP0.bel) hr (HRL.out _) (by omega) HB.out).mono ?_;rintro e9 w10 ⟨m',rfl,hpg,q,hna⟩;rw[←HE.out]at hpg hna⊢;exact hK.out _ _ ⟨hV.eff 9,fun h=>no_f (Eq.trans (Eq.symm h) (hN.out 6 rfl)),fun _ h=>no_t h,fun _ _=>⟨m',rfl,hpg,hna.mono hz9,hP0.below q⟩,fun h=>no_f (Eq.trans (Eq.symm (hU.out 10 _ rfl rfl)) h)⟩
   ·have hP:=c_2 (hN.out 9 rfl) hi.out;obtain⟨m',e9,hpg,hna,hP0⟩:=hP;have b9:=hP0.k (i:=0) rfl;simp only[e9]at hK⊢;refine wp_store_row _ _ _ rfl (w.heap.size+2) _ rfl rfl _ _ b9 info_pgD rfl (by rw[←Array.all_toList];rfl) ?_;exact hK.out undef _ ⟨hV.eff 10,fun h=>no_f (Eq.trans (Eq.symm h) (hC.out 9 _ rfl (hN.out 9 rfl) 6 rfl)),fun _ h=>no_f (Eq.trans (Eq.symm h) (hN.out 9 rfl)),fun _ h=>no_t h,fun _=>⟨m',hpg.over b9 zPD_no (sRG _ _ _) (hna.off HP0.out (by omega) (by omega)),hna.mono (by omega),hP0.row (by omega) (by simp) rfl (b9.row _) (sRG _ _ _)⟩⟩
  intro L s w9 hall hS;obtain⟨hV,c_0,c_1,c_2,c_3⟩:=hS;have hPm:=c_3 (hall 10 (by decide));clear hall hV c_0 c_1 c_2 c_3;obtain⟨m',hpg,hna,hM9⟩:=hPm;have HPG:=ZH hpg;have HNA:=ZH hna;have HQ9:=ZH hM9.bel;obtain⟨f0,f1,f2,f3,f4⟩:=(hM9.k (i:=0) rfl).fiveP;clear hpg hna hM9 m0 m1 m2 m3 m4 c0 c1 c2 c3;go_wp2_with fail;exact bodyPost_ret (v:= .agg (pgC m' P')) (by simp[results,Tryz.results34,go_sem,f0,f1,f2,f3,f4]) rfl ⟨m',rfl,HPG.out,HQ9.out,HNA.out⟩
 ·have d1:(k==2)=false:=beq_false_of_ne k2;by_cases k1:k=1
  ·have d2:(k==1)=true:=beq_iff_eq.2 k1;have HE:Hid (P'=putD (putD p (rowP (List.replicate p.lo.length 0) 1 A X) C) (negL (rowP (List.replicate p.lo.length 0) 1 A X)) (-C)):=by
    show _=_;rw[HPP.out,if_neg k2,if_pos k1]
   have HKK:Hid (k=1∨k=2∨k=11):= .inl k1;have x1:IntKind.i64.wrap (-C)= -C:=by rw[IntKind.wrap_i64];omega
   have HRB:Hid (∀z∈rowP (List.replicate p.lo.length 0) 1 A X,-1099511627776≤z∧z≤1099511627776):=fun z hz=>by
    have h1:=rowP_in A X (List.replicate p.lo.length 0) 1 0 (Int.le_refl _) (fun y hy=>by rw[List.eq_of_mem_replicate hy];omega) HWA.out (.inl rfl) z hz;have h2:=HGL.out HKK.out;omega
   clear k1 k2;go_enter Tryz.func34,Tryz.ntmps34;go_wp2_with fail;refine(HROW.out _ aa A HM.out.bel (HA.out _ HM.out.bel) rfl HWA.out HKK.out).mono ?_;rintro e w2 ⟨B6,d6,rfl,hr6,q2⟩;obtain⟨W2,hW2⟩:∃W2,W2=w2:=⟨_,rfl⟩;subst hW2;have HR6:=ZH hr6;have HM2:=ZH (HM.out.below q2);clear hr6 q2 m0 m1 m2 m3 m4 c0 c1 c2 c3;go_upto_region 7 with fail;refine region_gen0 (n:=12) (frame:= ?frame2) (fun L s w'=>Vs [oF (.agg (pgC m p)),oF (.slice B6 p.lo.length d6),oP (w.heap.size+1) 3,oI C,none,oF (.slice B6 p.lo.length d6),none,oP (w.heap.size+1) 3,oI C,oI ((-C)),none,none] L s∧(L 4=false→(Mem w w' [(w.heap.size+2,35,zPD),(w.heap.size+1,69,cnC x aa ⟨k,X,A,C⟩),(w.heap.size,35,pgC m p)] []∧IRow w' B6 (rowP (List.replicate p.lo.length 0) 1 A X)))∧(L 4=true→L 6=false→((Mem w w' [(w.heap.size+2,35,zPD),(w.heap.size+1,69,cnC x aa ⟨k,X,A,C⟩),(w.heap.size,35,pgC m p)] []∧IRow w' B6 (rowP (List.replicate p.lo.length 0) 1 A X))∧∃m',s 4= .agg (pgC m' (putD p (rowP (List.replicate p.lo.length 0) 1 A X) C))∧PgAt w' m' (putD p (rowP (List.replicate p.lo.length 0) 1 A X) C)∧NewA (w.heap.size+3) m p m' (putD p (rowP (List.replicate p.lo.length 0) 1 A X) C)))∧(L 6=true→L 10=false→((Mem w w' [(w.heap.size+2,35,zPD),(w.heap.size+1,69,cnC x aa ⟨k,X,A,C⟩),(w.heap.size,35,pgC m p)] []∧IRow w' B6 (rowP (List.replicate p.lo.length 0) 1 A X))∧(∃m',s 4= .agg (pgC m' (putD p (rowP (List.replicate p.lo.length 0) 1 A X) C))∧PgAt w' m' (putD p (rowP (List.replicate p.lo.length 0) 1 A X) C)∧NewA (w.heap.size+3) m p m' (putD p (rowP (List.replicate p.lo.length 0) 1 A X) C))∧∃B d,s 6= .slice B p.lo.length d∧IRow w' B (negL (rowP (List.replicate p.lo.length 0) 1 A X))))∧(L 10=true→L 11=false→(∃m',s 10= .agg (pgC m' P')∧PgAt w' m' P'∧NewA (w.heap.size+3) m p m' P'∧Mem w w' [(w.heap.size+2,35,zPD),(w.heap.size+1,69,cnC x aa ⟨k,X,A,C⟩),(w.heap.size,35,pgC m p)] []))∧(L 11=true→(∃m',PgAt w' m' P'∧NewA w.heap.size m p m' P'∧Mem w w' [(w.heap.size+2,35,pgC m' P'),(w.heap.size+1,69,cnC x aa ⟨k,X,A,C⟩),(w.heap.size,35,pgC m p)] []))) (by kernel_rfl) (by kernel_rfl) (by kernel_rfl) rfl ?_ ?_ ?_ ?_
   case refine_1=>exact⟨fun _ _ _ h=>no_f h,fun _=>⟨HM2.out.drew,HR6.out.below ((Read.refl _).drew.below _)⟩,fun h=>no_f h,fun h=>no_f h,fun h=>no_f h,fun h=>no_f h⟩
   case refine_2=>
    intro s;simp only[fr,Act.put,zA,zB,zC,zD,zE,zF,Nat.reduceAdd];rfl
   case refine_3=>
    iterate 12 (refine SN ?_ ?_;rotate_left)
    exact Steps.nil;all_goals (intro L s w9 hN hU hi hC hS K hK;dsimp only at hK⊢;simp only[Act.put,zD,zE,zF]at hK;obtain⟨hV,c_0,c_1,c_2,c_3,c_4⟩:=hS;refine ite_of rfl ?_)
    ·have hE:Mem w w9 [(w.heap.size+2,35,zPD),(w.heap.size+1,69,cnC x aa ⟨k,X,A,C⟩),(w.heap.size,35,pgC m p)] []∧IRow w9 B6 (rowP (List.replicate p.lo.length 0) 1 A X):=(c_0 (hU.out 4 _ rfl rfl));obtain⟨u0,u1,u2,u3,u4⟩:=(hE.1.k (i:=2) rfl).fiveP;go_simp;exact hK.out _ _ ⟨hV.put 0,c_0,c_1,c_2,c_3,c_4⟩
    ·go_simp;exact hK.out _ _ ⟨hV.put 1,c_0,c_1,c_2,c_3,c_4⟩
    ·go_simp;exact hK.out _ _ ⟨hV.put 2,c_0,c_1,c_2,c_3,c_4⟩
    ·rw[hV.at 2 (hN.out 2 rfl)]at hK⊢;have hE:Mem w w9 [(w.heap.size+2,35,zPD),(w.heap.size+1,69,cnC x aa ⟨k,X,A,C⟩),(w.heap.size,35,pgC m p)] []∧IRow w9 B6 (rowP (List.replicate p.lo.length 0) 1 A X):=(c_0 (hU.out 4 _ rfl rfl));obtain⟨u0,u1,u2,u3⟩:=(hE.1.k (i:=1) rfl).four;go_simp;exact hK.out _ _ ⟨hV.put 3,c_0,c_1,c_2,c_3,c_4⟩
    ·rw[hV.at 0 (hN.out 0 rfl)]at hK⊢;rw[hV.at 1 (hN.out 1 rfl)]at hK⊢;rw[hV.at 3 (hN.out 3 rfl)]at hK⊢;have hP:=c_0 hi.out;obtain⟨hP0,hr⟩:=hP;have hz9:=(Nat.succ_le_of_lt (hP0.k (i:=0) rfl).lt);go_simp;go_at_call 61;refine(HPUT.out _ m p (B6,d6) _ C (HP.out _ hP0.bel) hr (HRL.out _) (by omega) HB.out).mono ?_;rintro e9 w10 ⟨m',rfl,hpg,q,hna⟩;exact hK.out _ _ ⟨hV.eff 4,fun h=>no_t h,fun _ _=>⟨⟨hP0.below q,hr.below q⟩,m',rfl,hpg,hna.mono hz9⟩,fun h=>no_f (Eq.trans (Eq.symm (hU.out 6 _ rfl rfl)) h),fun h=>no_f (Eq.trans (Eq.symm (hU.out 10 _ rfl rfl)) h),fun h=>no_f (Eq.trans (Eq.symm (Shut.no hC 11 10 rfl rfl (hU.out 10 _ rfl rfl))) h)⟩
    ·go_simp;exact hK.out _ _ ⟨hV.put 5,c_0,c_1,c_2,c_3,c_4⟩
    ·rw[hV.at 5 (hN.out 5 rfl)]at hK⊢;have hP:=c_1 (hN.out 4 rfl) hi.out;obtain⟨⟨hP0,hr⟩,m',e4,hpg,hna⟩:=hP;have E4:=ZH e4;clear e4;go_simp;go_at_call 63;refine(HOPP.out _ B6 d6 p.lo.length _ hr (by rw[HRL.out];omega) (HRL.out _) HRB.out).mono ?_;rintro e9 w10 ⟨B,d,rfl,hr2,q⟩;exact hK.out _ _ ⟨hV.eff 6,fun h=>no_f (Eq.trans (Eq.symm h) (hN.out 4 rfl)),fun _ h=>no_t h,fun _ _=>⟨⟨hP0.below q,hr.below q⟩,⟨m',E4.out,hpg.below q,hna⟩,B,d,rfl,hr2⟩,fun h=>no_f (Eq.trans (Eq.symm (hU.out 10 _ rfl rfl)) h),fun h=>no_f (Eq.trans (Eq.symm (Shut.no hC 11 10 rfl rfl (hU.out 10 _ rfl rfl))) h)⟩
    ·go_simp;exact hK.out _ _ ⟨hV.put 7,c_0,c_1,c_2,c_3,c_4⟩
    ·rw[hV.at 7 (hN.out 7 rfl)]at hK⊢;have hE:Mem w w9 [(w.heap.size+2,35,zPD),(w.heap.size+1,69,cnC x aa ⟨k,X,A,C⟩),(w.heap.size,35,pgC m p)] []∧IRow w9 B6 (rowP (List.replicate p.lo.length 0) 1 A X):=(match hL0:L 4 with|false=>(c_0 hL0)|true=>(match hL1:L 6 with|false=>(c_1 hL0 hL1).1|true=>(c_2 hL1 (Shut.no hC 10 9 rfl rfl (hU.out 9 _ rfl rfl))).1));obtain⟨u0,u1,u2,u3⟩:=(hE.1.k (i:=1) rfl).four;go_simp;exact hK.out _ _ ⟨hV.put 8,c_0,c_1,c_2,c_3,c_4⟩
    ·rw[hV.at 8 (hN.out 8 rfl)]at hK⊢;go_simp;exact hK.out _ _ ⟨hV.put 9,c_0,c_1,c_2,c_3,c_4⟩
    ·rw[hV.at 9 (hN.out 9 rfl)]at hK⊢;have hP:=c_2 (hN.out 6 rfl) hi.out;obtain⟨⟨hP0,_⟩,⟨m',e4,hpg,hna⟩,B,d,e6,hr⟩:=hP;have hz9:=(Nat.succ_le_of_lt (hP0.k (i:=0) rfl).lt);have hab:=putD_ab p (rowP (List.replicate p.lo.length 0) 1 A X) C;simp only[e4,e6]at hK⊢;go_simp;go_at_call 61;refine(HPUT.out _ m' _ (B,d) _ (-C) hpg hr (by unfold negL;rw[List.length_map];exact HRL.out _) (by omega) (hab.2.1 HB.out)).mono ?_;rintro e9 w10 ⟨m2,rfl,hpg2,q,hna2⟩;rw[←HE.out]at hpg2 hna2⊢;exact hK.out _ _ ⟨hV.eff 10,fun h=>no_f (Eq.trans (Eq.symm h) (hN.out 4 rfl)),fun _ h=>no_f (Eq.trans (Eq.symm h) (hN.out 6 rfl)),fun _ h=>no_t h,fun _ _=>⟨m2,rfl,hpg2,hna.trans hna2 hz9,hP0.below q⟩,fun h=>no_f (Eq.trans (Eq.symm (hU.out 11 _ rfl rfl)) h)⟩
    ·have hP:=c_3 (hN.out 10 rfl) hi.out;obtain⟨m',e10,hpg,hna,hP0⟩:=hP;have b9:=hP0.k (i:=0) rfl;simp only[e10]at hK⊢;refine wp_store_row _ _ _ rfl (w.heap.size+2) _ rfl rfl _ _ b9 info_pgD rfl (by rw[←Array.all_toList];rfl) ?_;exact hK.out undef _ ⟨hV.eff 11,fun h=>no_f (Eq.trans (Eq.symm h) (hC.out 10 _ rfl (hN.out 10 rfl) 4 rfl)),fun _ h=>no_f (Eq.trans (Eq.symm h) (hC.out 10 _ rfl (hN.out 10 rfl) 6 rfl)),fun _ h=>no_f (Eq.trans (Eq.symm h) (hN.out 10 rfl)),fun _ h=>no_t h,fun _=>⟨m',hpg.over b9 zPD_no (sRG _ _ _) (hna.off HP0.out (by omega) (by omega)),hna.mono (by omega),hP0.row (by omega) (by simp) rfl (b9.row _) (sRG _ _ _)⟩⟩
   intro L s w9 hall hS;obtain⟨hV,c_0,c_1,c_2,c_3,c_4⟩:=hS;have hPm:=c_4 (hall 11 (by decide));clear hall hV c_0 c_1 c_2 c_3 c_4;obtain⟨m',hpg,hna,hM9⟩:=hPm;have HPG:=ZH hpg;have HNA:=ZH hna;have HQ9:=ZH hM9.bel;obtain⟨f0,f1,f2,f3,f4⟩:=(hM9.k (i:=0) rfl).fiveP;clear hpg hna hM9;go_wp2_with fail;exact bodyPost_ret (v:= .agg (pgC m' P')) (by simp[results,Tryz.results34,go_sem,f0,f1,f2,f3,f4]) rfl ⟨m',rfl,HPG.out,HQ9.out,HNA.out⟩
  ·have d2:(k==1)=false:=beq_false_of_ne k1;by_cases k11:k=11
   ·have d3:(k==11)=true:=beq_iff_eq.2 k11;have HE:Hid (P'=putD p (rowP (List.replicate p.lo.length 0) 1 (negL A) X) (mostD (-1) A)):=by
     show _=_;rw[HPP.out,if_neg k2,if_neg k1,if_pos k11]
    have HKK:Hid (k=1∨k=2∨k=11):= .inr (.inr k11);have hal:=HGL.out HKK.out;obtain⟨Y,hY⟩:∃Y,mostD (-1) A=Y:=⟨_,rfl⟩;rw[hY]at HE;have HY:Hid (Y=mostD (-1) (A.drop 0)):=hY.symm;have HNW:=ZH (negL_within HWA.out);have HIA:Hid (∀z∈A,-1099511627776≤z∧z≤1099511627776):=fun z hz=>by
     have:=within_in (List.all_eq_true.1 HWA.out z hz);omega
    clear k1 k2 k11 hY;go_enter Tryz.func34,Tryz.ntmps34;go_wp2_with fail;go_loopg [8,7] A.length (fun kk pp v7 wr=>∃(j:Nat)(v:Int),kk=A.length-j∧j≤A.length∧pp= .int .i64 (j:Nat)∧v7= .int .i64 v∧-1≤v∧v<j∧Hid (Y=mostD v (A.drop j))∧Hid (Mem w wr [(w.heap.size+2,35,zPD),(w.heap.size+1,69,cnC x aa ⟨k,X,A,C⟩),(w.heap.size,35,pgC m p)] []))
    case atStart=>exact⟨0,-1,rfl,Nat.zero_le _,rfl,rfl,by omega,by omega,HY.out,HM.out⟩
    case round=>
     clear m0 m1 m2 m3 m4 c0 c1 c2 c3 HY;obtain⟨j,v,hk2,hj,rfl,rfl,hv1,hv2,HV,HMR⟩:=hrel;obtain⟨c0,c1,c2,c3⟩:=(HMR.out.k (i:=1) rfl).four;by_cases hlt:j<A.length
     ·have d4:decide ((j:Int)<(A.length:Int))=true:=dT (by omega);have HV2:=ZH (HV.out.trans (mostD_step hlt v));obtain⟨ga,oa,haa,ca⟩:=(HA.out _ HMR.out.bel) j hlt;replace ca:wr.cell? ⟨ga,oa+j,none⟩=some (.int .i64 (A.getD j 0)):=ca;rw[haa]at c2;generalize A.getD j 0=z at*;clear HV haa;by_cases hz:z= -1
      ·have d5:(z== -1)=true:=beq_iff_eq.2 hz;have HV3:Hid (Y=mostD (v+1) (A.drop (j+1))):=by
        show _=_;rw[HV2.out,if_pos hz]
       have x5:IntKind.i64.wrap (v+1)=v+1:=by rw[IntKind.wrap_i64];omega
       have x6:wrap64 (v+1)=v+1:=IntWalk.wrap64_in _ ⟨by omega,by omega⟩;clear HV2 hz;go_wp2_with fail;go_roundg (A.length-(j+1))
       case measure=>omega
       case rel=>exact⟨j+1,v+1,rfl,by omega,by simp,rfl,by omega,by omega,HV3.out,HMR.out⟩
      ·have d5:(z== -1)=false:=beq_false_of_ne hz;have HV3:Hid (Y=mostD v (A.drop (j+1))):=by
        show _=_;rw[HV2.out,if_neg hz]
       clear HV2 hz;go_wp2_with fail;go_roundg (A.length-(j+1))
       case measure=>omega
       case rel=>exact⟨j+1,v,rfl,by omega,by simp,rfl,by omega,by omega,HV3.out,HMR.out⟩
     ·have d4:decide ((j:Int)<(A.length:Int))=false:=dF (by omega);have hYv:Y=v:=by
       rw[HV.out,List.drop_eq_nil_of_le (by omega)];rfl
      subst hYv;clear HV hv1 hv2;go_upto_region 15 with fail;refine region_gen0 (n:=11) (frame:= ?frame3) (fun L s w'=>Vs [oF (.agg (pgC m p)),oP (w.heap.size+1) 2,oF (.slice aa.1 A.length aa.2),none,oP (w.heap.size+1) 1,oF (.slice x.1 X.length x.2),oI ((p.lo.length:Nat)),none,oI Y,none,none] L s∧(L 3=false→(Mem w w' [(w.heap.size+2,35,zPD),(w.heap.size+1,69,cnC x aa ⟨k,X,A,C⟩),(w.heap.size,35,pgC m p)] []))∧(L 3=true→L 7=false→(Mem w w' [(w.heap.size+2,35,zPD),(w.heap.size+1,69,cnC x aa ⟨k,X,A,C⟩),(w.heap.size,35,pgC m p)] []∧∃B d,s 3= .slice B A.length d∧IRow w' B (negL A)))∧(L 7=true→L 9=false→(Mem w w' [(w.heap.size+2,35,zPD),(w.heap.size+1,69,cnC x aa ⟨k,X,A,C⟩),(w.heap.size,35,pgC m p)] []∧∃B d,s 7= .slice B p.lo.length d∧IRow w' B (rowP (List.replicate p.lo.length 0) 1 (negL A) X)))∧(L 9=true→L 10=false→(∃m',s 9= .agg (pgC m' P')∧PgAt w' m' P'∧NewA (w.heap.size+3) m p m' P'∧Mem w w' [(w.heap.size+2,35,zPD),(w.heap.size+1,69,cnC x aa ⟨k,X,A,C⟩),(w.heap.size,35,pgC m p)] []))∧(L 10=true→(∃m',PgAt w' m' P'∧NewA w.heap.size m p m' P'∧Mem w w' [(w.heap.size+2,35,pgC m' P'),(w.heap.size+1,69,cnC x aa ⟨k,X,A,C⟩),(w.heap.size,35,pgC m p)] []))) (by kernel_rfl) (by kernel_rfl) (by kernel_rfl) rfl ?_ ?_ ?_ ?_
      case refine_1=>exact⟨fun _ _ _ h=>no_f h,fun _=>HMR.out.drew,fun h=>no_f h,fun h=>no_f h,fun h=>no_f h,fun h=>no_f h⟩
      case refine_2=>
       intro s;simp only[fr,Act.put,zA,zB,zC,zD,zE,zF,Nat.reduceAdd];rfl
      case refine_3=>
       iterate 11 (refine SN ?_ ?_;rotate_left)
       exact Steps.nil;all_goals (intro L s w9 hN hU hi hC hS K hK;dsimp only at hK⊢;simp only[Act.put,zD,zE,zF]at hK;obtain⟨hV,c_0,c_1,c_2,c_3,c_4⟩:=hS;refine ite_of rfl ?_)
       ·have hE:Mem w w9 [(w.heap.size+2,35,zPD),(w.heap.size+1,69,cnC x aa ⟨k,X,A,C⟩),(w.heap.size,35,pgC m p)] []:=(match hL0:L 3 with|false=>(c_0 hL0)|true=>(match hL1:L 7 with|false=>(c_1 hL0 hL1).1|true=>(c_2 hL1 (hU.out 9 _ rfl rfl)).1));obtain⟨u0,u1,u2,u3,u4⟩:=(hE.k (i:=2) rfl).fiveP;go_simp;exact hK.out _ _ ⟨hV.put 0,c_0,c_1,c_2,c_3,c_4⟩
       ·go_simp;exact hK.out _ _ ⟨hV.put 1,c_0,c_1,c_2,c_3,c_4⟩
       ·rw[hV.at 1 (hN.out 1 rfl)]at hK⊢;have hE:Mem w w9 [(w.heap.size+2,35,zPD),(w.heap.size+1,69,cnC x aa ⟨k,X,A,C⟩),(w.heap.size,35,pgC m p)] []:=(c_0 (hU.out 3 _ rfl rfl));obtain⟨u0,u1,u2,u3⟩:=(hE.k (i:=1) rfl).four;go_simp;exact hK.out _ _ ⟨hV.put 2,c_0,c_1,c_2,c_3,c_4⟩
       ·rw[hV.at 2 (hN.out 2 rfl)]at hK⊢;have hP:=c_0 hi.out;go_simp;go_at_call 63;refine(HOPP.out _ aa.1 aa.2 A.length _ (HA.out _ hP.bel) (by omega) rfl HIA.out).mono ?_;rintro e9 w10 ⟨B,d,rfl,hr2,q⟩;exact hK.out _ _ ⟨hV.eff 3,fun h=>no_t h,fun _ _=>⟨hP.below q,B,d,rfl,hr2⟩,fun h=>no_f (Eq.trans (Eq.symm (hU.out 7 _ rfl rfl)) h),fun h=>no_f (Eq.trans (Eq.symm (Shut.no hC 9 7 rfl rfl (hU.out 7 _ rfl rfl))) h),fun h=>no_f (Eq.trans (Eq.symm (Shut.no hC 10 9 rfl rfl (Shut.no hC 9 7 rfl rfl (hU.out 7 _ rfl rfl)))) h)⟩
       ·go_simp;exact hK.out _ _ ⟨hV.put 4,c_0,c_1,c_2,c_3,c_4⟩
       ·rw[hV.at 4 (hN.out 4 rfl)]at hK⊢;have hE:Mem w w9 [(w.heap.size+2,35,zPD),(w.heap.size+1,69,cnC x aa ⟨k,X,A,C⟩),(w.heap.size,35,pgC m p)] []:=(match hL0:L 3 with|false=>(c_0 hL0)|true=>(c_1 hL0 (hU.out 7 _ rfl rfl)).1);obtain⟨u0,u1,u2,u3⟩:=(hE.k (i:=1) rfl).four;go_simp;exact hK.out _ _ ⟨hV.put 5,c_0,c_1,c_2,c_3,c_4⟩
       ·go_simp;exact hK.out _ _ ⟨hV.put 6,c_0,c_1,c_2,c_3,c_4⟩
       ·rw[hV.at 5 (hN.out 5 rfl)]at hK⊢;rw[hV.at 6 (hN.out 6 rfl)]at hK⊢;have hP:=c_1 (hN.out 3 rfl) hi.out;obtain⟨hP0,B,d,e3,hr⟩:=hP;simp only[e3]at hK⊢;go_simp;go_at_call 62;refine(HROW.out _ (B,d) (negL A) hP0.bel hr (by unfold negL;rw[List.length_map]) HNW.out HKK.out).mono ?_;rintro e9 w10 ⟨B2,d2,rfl,hr2,q⟩;exact hK.out _ _ ⟨hV.eff 7,fun h=>no_f (Eq.trans (Eq.symm h) (hN.out 3 rfl)),fun _ h=>no_t h,fun _ _=>⟨hP0.below q,B2,d2,rfl,hr2⟩,fun h=>no_f (Eq.trans (Eq.symm (hU.out 9 _ rfl rfl)) h),fun h=>no_f (Eq.trans (Eq.symm (Shut.no hC 10 9 rfl rfl (hU.out 9 _ rfl rfl))) h)⟩
       ·go_simp;exact hK.out _ _ ⟨hV.put 8,c_0,c_1,c_2,c_3,c_4⟩
       ·rw[hV.at 0 (hN.out 0 rfl)]at hK⊢;rw[hV.at 8 (hN.out 8 rfl)]at hK⊢;have hP:=c_2 (hN.out 7 rfl) hi.out;obtain⟨hP0,B,d,e7,hr⟩:=hP;have hz9:=(Nat.succ_le_of_lt (hP0.k (i:=0) rfl).lt);simp only[e7]at hK⊢;go_simp;go_at_call 61;refine(HPUT.out _ m p (B,d) _ Y (HP.out _ hP0.bel) hr (HRL.out _) (by omega) HB.out).mono ?_;rintro e9 w10 ⟨m',rfl,hpg,q,hna⟩;rw[←HE.out]at hpg hna⊢;exact hK.out _ _ ⟨hV.eff 9,fun h=>no_f (Eq.trans (Eq.symm h) (hC.out 7 _ rfl (hN.out 7 rfl) 3 rfl)),fun _ h=>no_f (Eq.trans (Eq.symm h) (hN.out 7 rfl)),fun _ h=>no_t h,fun _ _=>⟨m',rfl,hpg,hna.mono hz9,hP0.below q⟩,fun h=>no_f (Eq.trans (Eq.symm (hU.out 10 _ rfl rfl)) h)⟩
       ·have hP:=c_3 (hN.out 9 rfl) hi.out;obtain⟨m',e9,hpg,hna,hP0⟩:=hP;have b9:=hP0.k (i:=0) rfl;simp only[e9]at hK⊢;refine wp_store_row _ _ _ rfl (w.heap.size+2) _ rfl rfl _ _ b9 info_pgD rfl (by rw[←Array.all_toList];rfl) ?_;exact hK.out undef _ ⟨hV.eff 10,fun h=>no_f (Eq.trans (Eq.symm h) (hC.out 7 _ rfl (hC.out 9 _ rfl (hN.out 9 rfl) 7 rfl) 3 rfl)),fun _ h=>no_f (Eq.trans (Eq.symm h) (hC.out 9 _ rfl (hN.out 9 rfl) 7 rfl)),fun _ h=>no_f (Eq.trans (Eq.symm h) (hN.out 9 rfl)),fun _ h=>no_t h,fun _=>⟨m',hpg.over b9 zPD_no (sRG _ _ _) (hna.off HP0.out (by omega) (by omega)),hna.mono (by omega),hP0.row (by omega) (by simp) rfl (b9.row _) (sRG _ _ _)⟩⟩
      intro L s w9 hall hS;obtain⟨hV,c_0,c_1,c_2,c_3,c_4⟩:=hS;have hPm:=c_4 (hall 10 (by decide));clear hall hV c_0 c_1 c_2 c_3 c_4;obtain⟨m',hpg,hna,hM9⟩:=hPm;have HPG:=ZH hpg;have HNA:=ZH hna;have HQ9:=ZH hM9.bel;obtain⟨f0,f1,f2,f3,f4⟩:=(hM9.k (i:=0) rfl).fiveP;clear hpg hna hM9 c0 c1 c2 c3;go_wp2_with fail;exact bodyPost_ret (v:= .agg (pgC m' P')) (by simp[results,Tryz.results34,go_sem,f0,f1,f2,f3,f4]) rfl ⟨m',rfl,HPG.out,HQ9.out,HNA.out⟩
   ·have d3:(k==11)=false:=beq_false_of_ne k11;have HE:Hid (P'=p):=by
     show _=_;rw[HPP.out,if_neg k2,if_neg k1,if_neg k11]
    clear k1 k2 k11;go_enter Tryz.func34,Tryz.ntmps34;go_wp2_with ((with_reducible refine st_ ?_);refine wP2 _ _ (HM.out.k (i:=0) rfl) rfl rfl rfl rfl info_pgD rfl rfl ?_;intro w5 b5 g5);have HPG:=ZH ((HP.out _ HM.out.bel).over (HM.out.k (i:=0) rfl) zPD_no g5 ((NewA.off (n:=w.heap.size+3) (.inl ⟨rfl,rfl⟩) HP0.out (by omega) (by omega))));have HQ9:=ZH (HM.out.row (by omega) (by simp) rfl b5 g5).bel;obtain⟨f0,f1,f2,f3,f4⟩:=b5.fiveP;refine bodyPost_ret (v:= .agg (pgC m p)) (by simp[results,Tryz.results34,go_sem,f0,f1,f2,f3,f4]) rfl ?_;rw[HE.out];exact⟨m,rfl,HPG.out,HQ9.out,.inl ⟨rfl,rfl⟩⟩
end Go.Proofs.YtecfcjdgmpopjaaGreat

/-
  Joined texts: KM, KN, KO, KP, KQ, KR, KS.
-/
import Derived.Test.YtpnmcacndjkfaaaGreatKZ
import Derived.Test.YtpnmcacndjkfaaaGreatDat
set_option maxHeartbeats 8000000
set_option maxRecDepth 100000
set_option linter.unusedSimpArgs false
set_option linter.unusedVariables false
namespace Go.Proofs.YtpnmcacndjkfaaaGreat
open Go.RowKit Num
theorem rbelow_any {w:World}{n m:Bool}{A B:Option Addr}{l c k d:Nat}:Calls Tryz.prog 72 #[rv n A l c m B k d] w fun e w'=>e= .returned (.bool n)∧Below w.heap.size w w':=by
 have M:=(Mem.start w).new 45 #[.bool n,.slice A l c,.bool m,.slice B k d];obtain⟨v1,v2,v3,v4⟩:=(M.k (i:=0) rfl).four;go_enter Tryz.func72,Tryz.ntmps72;go_wp2_with fail;exact bodyPost_ret (v:= .bool n) (by simp[results,Tryz.results72,go_sem]) rfl ⟨rfl,M.bel⟩
structure Sr where
 n:Bool
 xs:List Nat
 m:Bool
 ys:List Nat
 big:Bool
def RetSm (w w':World)(e:Ending)(r:Sr):Prop:=(∃A c B d,e= .returned (.agg #[.bool r.n,.slice A r.xs.length c,.bool r.m,.slice B r.ys.length d,.bool r.big])∧Rd w' A c r.xs∧Rd w' B d r.ys)∧Below w.heap.size w w'
def plusR (s:Sr)(x:Fr)(z:Int):Sr:=
 let p:=qmulR x.n x.xs x.m x.ys (sN z) (sD z) false [1]
 let t:=qaddR s.n s.xs s.m s.ys p.1 p.2.1 p.2.2.1 p.2.2.2.1
 ⟨t.1,t.2.1,t.2.2.1,t.2.2.2.1,s.big||(p.2.2.2.2 !=0||t.2.2.2.2 !=0)⟩
theorem rqmulK_eq {n m n' m':Bool}{A B A' B':Option Addr}{c d c' d':Nat}{xs ys xs' ys':List Nat}{w:World}{r:R5}(hr:qmulR n xs m ys n' xs' m' ys'=r)(ha:Rd w A c xs)(hb:Rd w B d ys)(ha':Rd w A' c' xs')(hb':Rd w B' d' ys'):Calls Tryz.prog 109 #[rv n A xs.length c m B ys.length d,rv n' A' xs'.length c' m' B' ys'.length d'] w fun e w'=>RetQE w w' e r:=by
 subst hr;exact rqmul_any ha hb ha' hb'
abbrev tyS:TypeId:=77
abbrev z5:Array Value:= #[.bool false,.slice none 0 0,.bool false,.slice none 0 0,.bool false]
theorem info_sum:(Tryz.prog.info? tyS).map (·.size)=some 5:=by kernel_rfl
theorem rplus_any {w:World}{s:Sr}{x:Fr}{z:Int}{A B A' B':Option Addr}{c d c' d':Nat}(hz: -9223372036854775808≤z)(hz':z≤9223372036854775807)(ha:Rd w A c s.xs)(hb:Rd w B d s.ys)(ha':Rd w A' c' x.xs)(hb':Rd w B' d' x.ys):Calls Tryz.prog 70 #[.agg #[.bool s.n,.slice A s.xs.length c,.bool s.m,.slice B s.ys.length d,.bool s.big],rv x.n A' x.xs.length c' x.m B' x.ys.length d',.int .i64 z] w fun e w'=>RetSm w w' e (plusR s x z):=by
 obtain⟨n,xs,m,ys,big⟩:=s;obtain⟨n',xs',m',ys'⟩:=x;dsimp only at*;have HOF:=ZH (fun w=>rqof_any z w hz hz');have hpl:∃p,qmulR n' xs' m' ys' (sN z) (sD z) false [1]=p:=⟨_,rfl⟩;obtain⟨⟨p1,p2,p3,p4,p5⟩,hp⟩:=hpl;obtain⟨⟨t1,t2,t3,t4,t5⟩,ht⟩:∃t,qaddR n xs m ys p1 p2 p3 p4=t:=⟨_,rfl⟩;have he:plusR ⟨n,xs,m,ys,big⟩ ⟨n',xs',m',ys'⟩ z=⟨t1,t2,t3,t4,big||(p5 !=0||t5 !=0)⟩:=by
  simp only[plusR,hp,ht]
 rw[he];have HP:=ZH hp;have HT:=ZH ht;obtain⟨bg,hbg⟩:∃bg,(big||(p5 !=0||t5 !=0))=bg:=⟨_,rfl⟩;rw[hbg];have HBG:=ZH hbg;clear hp ht he hbg hz hz';generalize sN z=zn at*;generalize sD z=zs at*;have M:=(((((((Mem.start w).addR ha).addR hb).addR ha').addR hb').new tyS #[.bool n,.slice A xs.length c,.bool m,.slice B ys.length d,.bool big]).newAt (g:=w.heap.size+1) (by simp) 45 #[.bool n',.slice A' xs'.length c',.bool m',.slice B' ys'.length d']).newAt (g:=w.heap.size+2) (by simp) tyS z5;clear ha hb ha' hb';go_enter Tryz.func70,Tryz.ntmps70;go_upto_region 1 with fail;go_cut [7,8] (fun s5 s6 wx=>∃(g5:Nat)(A5 B5:Option Addr)(c5 d5:Nat),s5= .pointer (some ⟨g5,0,none⟩)∧s6= .int .i64 p5∧w.heap.size+2<g5∧Mem w wx [(g5,45,#[.bool p1,.slice A5 p2.length c5,.bool p3,.slice B5 p4.length d5]),(w.heap.size+2,tyS,z5),(w.heap.size+1,45,#[.bool n',.slice A' xs'.length c',.bool m',.slice B' ys'.length d']),(w.heap.size,tyS,#[.bool n,.slice A xs.length c,.bool m,.slice B ys.length d,.bool big])] [(A5,c5,p2),(B5,d5,p4),(B',d',ys'),(A',c',xs'),(B,d,ys),(A,c,xs)])
 case first=>
  refine region_st (n:=10) (frame:= ?frame1) (fun jK=>[.val (.fix (.agg #[.bool n',.slice A' xs'.length c',.bool m',.slice B' ys'.length d'])),.val (.fix (.int .i64 z)),.val (.rat (zn) (zs) (false) ([1])),.val (.re (p1,p2,p3,p4,p5)),.val (.re (p1,p2,p3,p4,p5)),.val (.rat (p1) (p2) (p3) (p4)),.val (.fix (.int .i64 p5)),.cell 8 45 #[.bool false,.slice none 0 0,.bool false,.slice none 0 0] (.rat (p1) (p2) (p3) (p4)),.none,.val (.fix (.int .i64 p5))].getD jK .none) [] (by kernel_rfl) (by kernel_rfl) (by kernel_rfl) rfl M (fun _ h=>by cases h) (fun _ h=>by cases h) ?_ ?_ ?_
  case refine_1=>
   intro s;simp only[fr,Act.put,zA,zB,zC,zD,zE,zF,Nat.reduceAdd];rfl
  case refine_2=>
   refine SC 0 1 rfl ?_ (SC 1 2 rfl ?_ (SC 2 3 rfl ?_ (SC 3 4 rfl ?_ (SC 4 5 rfl ?_ (SC 5 6 rfl ?_ (SC 6 7 rfl ?_ (SC 7 8 rfl ?_ (SC 8 9 rfl ?_ (SC 9 10 rfl ?_ Steps.nil)))))))));all_goals (intro L s w9 hN hU hi hS K hK;dsimp only at hK⊢;simp only[Act.put,zD,zE,zF]at hK)
   ·obtain⟨u1,u2,u3,u4⟩:=(hS.mem.k (i:=1) rfl).four;go_simp;exact hS.o1 hK
   ·go_simp;exact hS.o1 hK
   ·have e1:=hS.f hN 1;simp only[e1]at hK⊢;go_simp;go_at_call 68;refine(HOF.out _).mono ?_;rintro e9 w10 ⟨⟨A0,c0,B0,d0,rfl,h0,k0⟩,q⟩;exact hK.out _ _ (hS.val rfl rfl q ⟨A0,c0,B0,d0,rfl,h0,k0⟩)
   ·have e0:=hS.f hN 0;simp only[e0]at hK⊢;obtain⟨A2,c2,B2,d2,e2,h2,k2⟩:=hS.val_at 2 rfl (by decide) (hN.out 2 rfl);simp only[e2]at hK⊢;go_simp;go_at_call 109;refine(rqmulK_eq HP.out (hS.mem.r (i:=1) rfl) (hS.mem.r (i:=0) rfl) h2 k2).mono ?_;rintro e9 w10 ⟨⟨A0,c0,B0,d0,rfl,h0,k0⟩,q⟩;exact hK.out _ _ (hS.val rfl rfl q ⟨A0,c0,B0,d0,rfl,h0,k0⟩)
   ·obtain⟨A3,c3,B3,d3,e3,h3,k3⟩:=hS.val_at 3 rfl (by decide) (hN.out 3 rfl);simp only[e3]at hK⊢;go_simp;exact hK.out _ _ (hS.val rfl rfl (Below.refl _ _) ⟨A3,c3,B3,d3,rfl,h3,k3⟩)
   ·obtain⟨A4,c4,B4,d4,e4,h4,k4⟩:=hS.val_at 4 rfl (by decide) (hN.out 4 rfl);simp only[e4]at hK⊢;go_simp;exact hK.out _ _ (hS.val rfl rfl (Below.refl _ _) ⟨A4,c4,B4,d4,rfl,h4,k4⟩)
   ·obtain⟨A4,c4,B4,d4,e4,h4,k4⟩:=hS.val_at 4 rfl (by decide) (hN.out 4 rfl);simp only[e4]at hK⊢;go_simp;exact hS.o1 hK
   ·go_simp;exact hK.out _ _ (hS.new rfl rfl hi.out (fun _=>hU.out 8 _ rfl rfl) rfl)
   ·obtain⟨A5,c5,B5,d5,e5,h5,k5⟩:=hS.val_at 5 rfl (by decide) (hN.out 5 rfl);simp only[e5]at hK⊢;obtain⟨g9,cs9,e9,l9,b9,n9,z9,_⟩:=hS.cell_at 7 rfl (by decide) (hN.out 7 rfl);obtain rfl:=z9 hi.out;simp only[e9]at hK⊢;refine ite_of rfl ?_;refine wp_store_row _ _ _ rfl g9 _ rfl rfl _ _ b9 info_rrat rfl (by rw[←Array.all_toList];rfl) ?_;simp only[Act.put];exact hK.out undef _ (hS.fill (u:=undef) (c:= .rat (p1) (p2) (p3) (p4)) rfl rfl (by decide) rfl (hN.out 7 rfl) hi.out e9 (setRow_grown _ _ _) (b9.row _) rfl ⟨A5,c5,B5,d5,rfl,h5,k5⟩)
   ·have e6:=hS.f hN 6;simp only[e6]at hK⊢;go_simp;exact hS.o1 hK
  intro L s w9 hall hS;obtain⟨g7,cs7,e7,l7,b7,n7,_,z7⟩:=hS.cell_at 7 rfl (by decide) (hall 7 (by decide));obtain⟨A7,c7,B7,d7,rfl,h7,k7⟩:=z7 (hall 8 (by decide));rw[e7];have e9:=hS.val_at 9 rfl (by decide) (hall 9 (by decide));go_wp2_with fail;go_meet;exact⟨_,A7,B7,c7,d7,rfl,e9,by (have l7':=l7;simp at l7';omega),((hS.mem.addR k7).addR h7).addK b7⟩
 case rest=>
  clear M;obtain⟨g5,A5,B5,c5,d5,rfl,rfl,hg5,M⟩:=hcut;obtain⟨v1,v2,v3,v4,v5⟩:=(M.k (i:=3) rfl).fiveP;obtain⟨u1,u2,u3,u4⟩:=(M.k (i:=0) rfl).four;go_wp2_with fail;refine(rqadd_any (M.r (i:=5) rfl) (M.r (i:=4) rfl) (M.r (i:=0) rfl) (M.r (i:=1) rfl)).mono ?_;rw[HT.out];rintro e w7 ⟨⟨A7,c7,B7,d7,rfl,h,k⟩,q⟩;replace M:=((M.below q).addR k).addR h;have p0:=(M.k (i:=0) rfl).lt;replace M:=M.new 45 #[.bool t1,.slice A7 t2.length c7,.bool t3,.slice B7 t4.length d7];clear q h k v1 v2 v3 v4 v5 u1 u2 u3 u4;obtain⟨v1,v2,v3,v4,v5⟩:=(M.k (i:=4) rfl).fiveP;obtain⟨u1,u2,u3,u4⟩:=(M.k (i:=0) rfl).four;cases big with
  |true=>
   go_wp2_with ((with_reducible refine st_ ?_);refine wp_put2 _ _ (M.k (i:=2) rfl) rfl rfl rfl rfl info_sum rfl rfl ?_;intro w4 b4 g4;replace M:=M.rowAt (i:=2) rfl (by omega) (by simp<;>omega) rfl b4 g4;obtain⟨f1,f2,f3,f4,f5⟩:=(M.k (i:=2) rfl).fiveP);have hB:=HBG.out;simp only[Bool.true_or,Bool.false_or,Bool.or_true,bne_self_eq_false,Bool.or_false]at hB;subst hB;exact bodyPost_ret (v:= .agg #[.bool t1,.slice A7 t2.length c7,.bool t3,.slice B7 t4.length d7,.bool _]) (by simp[results,Tryz.results70,go_sem,f1,f2,f3,f4,f5]) rfl ⟨⟨A7,c7,B7,d7,rfl,M.r (i:=0) rfl,M.r (i:=1) rfl⟩,M.bel⟩
  |false=>
   by_cases h5:p5=0
   ·subst h5;by_cases h6:t5=0
    ·subst h6;go_wp2_with ((with_reducible refine st_ ?_);refine wp_put2 _ _ (M.k (i:=2) rfl) rfl rfl rfl rfl info_sum rfl rfl ?_;intro w4 b4 g4;replace M:=M.rowAt (i:=2) rfl (by omega) (by simp<;>omega) rfl b4 g4;obtain⟨f1,f2,f3,f4,f5⟩:=(M.k (i:=2) rfl).fiveP);have hB:=HBG.out;simp only[Bool.true_or,Bool.false_or,Bool.or_true,bne_self_eq_false,Bool.or_false]at hB;subst hB;exact bodyPost_ret (v:= .agg #[.bool t1,.slice A7 t2.length c7,.bool t3,.slice B7 t4.length d7,.bool _]) (by simp[results,Tryz.results70,go_sem,f1,f2,f3,f4,f5]) rfl ⟨⟨A7,c7,B7,d7,rfl,M.r (i:=0) rfl,M.r (i:=1) rfl⟩,M.bel⟩
    ·have h6':(t5 !=0)=true:=by simp[h6]
     rw[h6']at HBG;clear h6;go_wp2_with ((with_reducible refine st_ ?_);refine wp_put2 _ _ (M.k (i:=2) rfl) rfl rfl rfl rfl info_sum rfl rfl ?_;intro w4 b4 g4;replace M:=M.rowAt (i:=2) rfl (by omega) (by simp<;>omega) rfl b4 g4;obtain⟨f1,f2,f3,f4,f5⟩:=(M.k (i:=2) rfl).fiveP);have hB:=HBG.out;simp only[Bool.true_or,Bool.false_or,Bool.or_true,bne_self_eq_false,Bool.or_false]at hB;subst hB;exact bodyPost_ret (v:= .agg #[.bool t1,.slice A7 t2.length c7,.bool t3,.slice B7 t4.length d7,.bool _]) (by simp[results,Tryz.results70,go_sem,f1,f2,f3,f4,f5]) rfl ⟨⟨A7,c7,B7,d7,rfl,M.r (i:=0) rfl,M.r (i:=1) rfl⟩,M.bel⟩
   ·have h5':(p5 !=0)=true:=by simp[h5]
    rw[h5']at HBG;clear h5;go_wp2_with ((with_reducible refine st_ ?_);refine wp_put2 _ _ (M.k (i:=2) rfl) rfl rfl rfl rfl info_sum rfl rfl ?_;intro w4 b4 g4;replace M:=M.rowAt (i:=2) rfl (by omega) (by simp<;>omega) rfl b4 g4;obtain⟨f1,f2,f3,f4,f5⟩:=(M.k (i:=2) rfl).fiveP);have hB:=HBG.out;simp only[Bool.true_or,Bool.false_or,Bool.or_true,bne_self_eq_false,Bool.or_false]at hB;subst hB;exact bodyPost_ret (v:= .agg #[.bool t1,.slice A7 t2.length c7,.bool t3,.slice B7 t4.length d7,.bool _]) (by simp[results,Tryz.results70,go_sem,f1,f2,f3,f4,f5]) rfl ⟨⟨A7,c7,B7,d7,rfl,M.r (i:=0) rfl,M.r (i:=1) rfl⟩,M.bel⟩
def dotR:Sr→List Fr→List Int→Sr
 |s,x::l,z::zs=>dotR (plusR s x z) l zs
 |s,_,_=>s
theorem dotR_nil (s:Sr)(zs:List Int):dotR s [] zs=s:=by
 cases zs<;>rfl
def sr0:Sr:=⟨sN 0,sD 0,false,[1],false⟩
theorem rdot_any {w:World}{A Z:Option Addr}{c cz:Nat}{l:List Fr}{zs:List Int}(h:GRow w A l)(hz:IRow w Z zs)(hlen:l.length≤zs.length)(hs:l.length≤1000000)(h64:∀j,j<zs.length→-9223372036854775808≤zs.getD j 0∧zs.getD j 0≤9223372036854775807):Calls Tryz.prog 36 #[.slice A l.length c,.slice Z zs.length cz] w fun e w'=>RetSm w w' e (dotR sr0 l zs):=by
 have HG:=ZH h;have HZ:=ZH hz;have H64:=ZH h64;have HLN:=ZH hlen;have HOF:=ZH (fun w=>rqof_any 0 w (by decide) (by decide));obtain⟨y0,hy0⟩:∃y0:List Nat,[1]=y0:=⟨_,rfl⟩;unfold sr0;rw[hy0]at HOF⊢;generalize sN 0=n0 at*;generalize sD 0=x0 at*;obtain⟨R,hR⟩:∃R,dotR ⟨n0,x0,false,y0,false⟩ l zs=R:=⟨_,rfl⟩;rw[hR];have HR:Hid (R=dotR ⟨n0,x0,false,y0,false⟩ (l.drop 0) (zs.drop 0)):=hR.symm;clear hR hy0 h hz h64 hlen;have M:=(Mem.start w).new tyS z5;go_enter Tryz.func36,Tryz.ntmps36;go_wp2_with fail;refine(HOF.out _).mono ?_;rintro e w1 ⟨⟨A0,c0,B0,d0,rfl,h0,k0⟩,q1⟩;replace M:=M.below q1;have p1:=(M.k (i:=0) rfl).lt;have HA0:=ZH (h0.below (below_alloc1 w1 (.cells #[.bool n0,.slice A0 x0.length c0,.bool false,.slice B0 y0.length d0,.bool false] tyS)) ZL);have HB0:=ZH (k0.below (below_alloc1 w1 (.cells #[.bool n0,.slice A0 x0.length c0,.bool false,.slice B0 y0.length d0,.bool false] tyS)) ZL);replace M:=M.new tyS #[.bool n0,.slice A0 x0.length c0,.bool false,.slice B0 y0.length d0,.bool false];clear h0 k0 q1;go_upto_region 3 with fail;generalize w1.heap.size=g5 at*;go_loopg [6] l.length (fun k p wr=>∃(j:Nat)(sm:Sr)(A:Option Addr)(c:Nat)(B:Option Addr)(d:Nat),k=l.length-j∧j≤l.length∧p= .int .i64 (j:Nat)∧Hid (R=dotR sm (l.drop j) (zs.drop j))∧Mem w wr [(g5,tyS,#[.bool sm.n,.slice A sm.xs.length c,.bool sm.m,.slice B sm.ys.length d,.bool sm.big]),(w.heap.size,tyS,z5)] []∧Hid (Rd wr A c sm.xs)∧Hid (Rd wr B d sm.ys))
 case atStart=>exact⟨0,⟨n0,x0,false,y0,false⟩,A0,c0,B0,d0,rfl,Nat.zero_le _,rfl,HR.out,M,HA0.out,HB0.out⟩
 case round=>
  clear HR M HA0 HB0;obtain⟨j,sm,A1,c1,B1,d1,hk,hj,rfl,HL,M,HA,HB⟩:=hrel;obtain⟨n1,xs1,m1,ys1,big1⟩:=sm;dsimp only at M HA HB;by_cases hlt:j<l.length
  ·have dd1:decide ((j:Int)<(l.length:Int))=true:=decide_eq_true (by omega);obtain⟨gL,oL,rfl,A2,c2,B2,d2,a1,a2,a3,a4,hx,hy⟩:=(HG.out.below M.bel) j hlt;have hltz:j<zs.length:=by have:=HLN.out;omega
   obtain⟨gz,oz,rfl,cz0⟩:=(HZ.out.below M.bel) j hltz;replace cz0:wr.cell? ⟨gz,oz+j,none⟩=some (.int .i64 (zs.getD j 0)):=cz0;have h6:=ZH (H64.out j hltz);obtain⟨S2,hS2⟩:∃S2,plusR ⟨n1,xs1,m1,ys1,big1⟩ (l.getD j fr0) (zs.getD j 0)=S2:=⟨_,rfl⟩;have HC:Hid (R=dotR S2 (l.drop (j+1)) (zs.drop (j+1))):=by
    show _=_;rw[HL.out,drop_at (z:=fr0) hlt,drop_at (z:=0) hltz,←hS2];rfl
   generalize zs.getD j 0=z at*;obtain⟨X,hX⟩:∃X,l.getD j fr0=X:=⟨_,rfl⟩;rw[hX]at a1 a2 a3 a4 hx hy hS2;obtain⟨n2,xs2,m2,ys2⟩:=X;dsimp only at a1 a2 a3 a4 hx hy;have HS2:=ZH hS2;have HX:=ZH hx;have HY:=ZH hy;have hjz:j<zs.length:=hltz;clear HL hX hS2 hx hy hltz;have X1:=Lk.of a1;have X2:=Lk.of a2;have X3:=Lk.of a3;have X4:=Lk.of a4;have CZ:=Lk.of cz0;have HK:=ZH (M.k (i:=0) rfl);clear a1 a2 a3 a4 cz0;generalize l.length=ll at*;generalize zs.length=zl at*;have HM:=ZH M;have hgl:=(M.k (i:=0) rfl).lt;clear M;go_upto_region 5 with fail;refine region_gen0 (n:=11) (frame:= ?frame1) (fun L s w'=>(L 0=true→s 0= .agg #[.bool n1,.slice A1 xs1.length c1,.bool m1,.slice B1 ys1.length d1,.bool big1])∧(L 1=true→s 1= .slice (some ⟨gL,oL,none⟩) ll c)∧(L 2=true→s 2= .int .i64 (j:Nat))∧(L 3=true→s 3= .pointer (some ⟨gL,oL+j*4,none⟩))∧(L 4=true→s 4=rv n2 A2 xs2.length c2 m2 B2 ys2.length d2)∧(L 5=true→s 5= .slice (some ⟨gz,oz,none⟩) zl cz)∧(L 6=true→s 6= .int .i64 (j:Nat))∧(L 7=true→s 7= .pointer (some ⟨gz,oz+j,none⟩))∧(L 8=true→s 8= .int .i64 z)∧(L 9=false→(Below wr.heap.size wr w'))∧(L 9=true→L 10=false→(∃A9 c9 B9 d9,s 9= .agg #[.bool S2.n,.slice A9 S2.xs.length c9,.bool S2.m,.slice B9 S2.ys.length d9,.bool S2.big]∧Rd w' A9 c9 S2.xs∧Rd w' B9 d9 S2.ys∧Below wr.heap.size wr w'))∧(L 10=true→(∃A9 c9 B9 d9,Mem w w' [(g5,tyS,#[.bool S2.n,.slice A9 S2.xs.length c9,.bool S2.m,.slice B9 S2.ys.length d9,.bool S2.big]),(w.heap.size,tyS,z5)] []∧Rd w' A9 c9 S2.xs∧Rd w' B9 d9 S2.ys))) (by kernel_rfl) (by kernel_rfl) (by kernel_rfl) rfl ?_ ?_ ?_ ?_
   case refine_1=>exact⟨fun h=>no_f h,fun h=>no_f h,fun h=>no_f h,fun h=>no_f h,fun h=>no_f h,fun h=>no_f h,fun h=>no_f h,fun h=>no_f h,fun h=>no_f h,fun _=>(Read.refl _).drew.below _,fun h=>no_f h,fun h=>no_f h⟩
   case refine_2=>
    intro s;simp only[fr,Act.put,zA,zB,zC,zD,zE,zF,Nat.reduceAdd];rfl
   case refine_3=>
    refine SC 0 1 rfl ?_ (SC 1 2 rfl ?_ (SC 2 3 rfl ?_ (SC 3 4 rfl ?_ (SC 4 5 rfl ?_ (SC 5 6 rfl ?_ (SC 6 7 rfl ?_ (SC 7 8 rfl ?_ (SC 8 9 rfl ?_ (SC 9 10 rfl ?_ (SC 10 11 rfl ?_ Steps.nil))))))))));all_goals (intro L s w9 hN hU hi hC hS K hK;dsimp only at hK⊢;simp only[Act.put,zD,zE,zF]at hK;obtain⟨h_0,h_1,h_2,h_3,h_4,h_5,h_6,h_7,h_8,c_0,c_1,c_2⟩:=hS)
    ·refine ite_of rfl ?_;have hE:Below wr.heap.size wr w9:=(c_0 (hU.out 9 _ rfl rfl));obtain⟨u0,u1,u2,u3,u4⟩:=(HK.out.below hE ZL).fiveP;go_simp;refine hK.out _ _ ?_;exact⟨fun _=>rfl,h_1,h_2,h_3,h_4,h_5,h_6,h_7,h_8,c_0,c_1,c_2⟩
    ·refine ite_of rfl ?_;go_simp;refine hK.out _ _ ?_;exact⟨h_0,fun _=>rfl,h_2,h_3,h_4,h_5,h_6,h_7,h_8,c_0,c_1,c_2⟩
    ·refine ite_of rfl ?_;go_simp;refine hK.out _ _ ?_;exact⟨h_0,h_1,fun _=>rfl,h_3,h_4,h_5,h_6,h_7,h_8,c_0,c_1,c_2⟩
    ·have e_1:=h_1 (hN.out 1 rfl);simp only[e_1]at hK⊢;have e_2:=h_2 (hN.out 2 rfl);simp only[e_2]at hK⊢;refine ite_of rfl ?_;go_simp;refine hK.out _ _ ?_;exact⟨h_0,h_1,h_2,fun _=>rfl,h_4,h_5,h_6,h_7,h_8,c_0,c_1,c_2⟩
    ·have e_3:=h_3 (hN.out 3 rfl);simp only[e_3]at hK⊢;refine ite_of rfl ?_;have hE:Below wr.heap.size wr w9:=(c_0 (hU.out 9 _ rfl rfl));have u0:=X1 _ hE;have u1:=X2 _ hE;have u2:=X3 _ hE;have u3:=X4 _ hE;go_simp;refine hK.out _ _ ?_;exact⟨h_0,h_1,h_2,h_3,fun _=>rfl,h_5,h_6,h_7,h_8,c_0,c_1,c_2⟩
    ·refine ite_of rfl ?_;go_simp;refine hK.out _ _ ?_;exact⟨h_0,h_1,h_2,h_3,h_4,fun _=>rfl,h_6,h_7,h_8,c_0,c_1,c_2⟩
    ·refine ite_of rfl ?_;go_simp;refine hK.out _ _ ?_;exact⟨h_0,h_1,h_2,h_3,h_4,h_5,fun _=>rfl,h_7,h_8,c_0,c_1,c_2⟩
    ·have e_5:=h_5 (hN.out 5 rfl);simp only[e_5]at hK⊢;have e_6:=h_6 (hN.out 6 rfl);simp only[e_6]at hK⊢;refine ite_of rfl ?_;go_simp;refine hK.out _ _ ?_;exact⟨h_0,h_1,h_2,h_3,h_4,h_5,h_6,fun _=>rfl,h_8,c_0,c_1,c_2⟩
    ·have e_7:=h_7 (hN.out 7 rfl);simp only[e_7]at hK⊢;refine ite_of rfl ?_;have hE:Below wr.heap.size wr w9:=(c_0 (hU.out 9 _ rfl rfl));have u0:=CZ _ hE;go_simp;refine hK.out _ _ ?_;exact⟨h_0,h_1,h_2,h_3,h_4,h_5,h_6,h_7,fun _=>rfl,c_0,c_1,c_2⟩
    ·have e_0:=h_0 (hN.out 0 rfl);simp only[e_0]at hK⊢;have e_4:=h_4 (hN.out 4 rfl);simp only[e_4]at hK⊢;have e_8:=h_8 (hN.out 8 rfl);simp only[e_8]at hK⊢;refine ite_of rfl ?_;have hP:=c_0 hi.out;go_simp;go_at_call 70;have hh:=rplus_any (s:=⟨n1,xs1,m1,ys1,big1⟩) (x:=⟨n2,xs2,m2,ys2⟩) h6.out.1 h6.out.2 (HA.out.below hP ZL) (HB.out.below hP ZL) (HX.out.below hP ZL) (HY.out.below hP ZL);rw[HS2.out]at hh;refine hh.mono ?_;rintro e9 w10 ⟨⟨A9,c9,B9,d9,rfl,h9,k9⟩,q⟩;exact hK.out _ _ ⟨h_0,h_1,h_2,h_3,h_4,h_5,h_6,h_7,h_8,fun h=>no_t h,fun _ _=>⟨A9,c9,B9,d9,rfl,h9,k9,below_trans hP q⟩,fun h=>no_f (Eq.trans (Eq.symm (hU.out 10 _ rfl rfl)) h)⟩
    ·refine ite_of rfl ?_;have hP:=c_1 (hN.out 9 rfl) hi.out;obtain⟨A9,c9,B9,d9,e9,h9,k9,hP0⟩:=hP;simp only[e9]at hK⊢;have m9:=HM.out.below hP0;have b9:=m9.k (i:=0) rfl;refine wp_store_row _ _ _ rfl g5 _ rfl rfl _ _ b9 info_sum rfl (by rw[←Array.all_toList];rfl) ?_;exact hK.out undef _ ⟨h_0,h_1,h_2,h_3,h_4,h_5,h_6,h_7,h_8,fun h=>no_f (Eq.trans (Eq.symm h) (hN.out 9 rfl)),fun _ h=>no_t h,fun _=>⟨A9,c9,B9,d9,m9.row (by omega) (by simp;omega) rfl (b9.row _) (setRow_grown _ _ _),h9.boxed (b9.box rfl) (setRow_grown _ _ _),k9.boxed (b9.box rfl) (setRow_grown _ _ _)⟩⟩
   intro L s w9 hall hS;obtain⟨h_0,h_1,h_2,h_3,h_4,h_5,h_6,h_7,h_8,c_0,c_1,c_2⟩:=hS;have hPm:=c_2 (hall 10 (by decide));clear hall h_0 h_1 h_2 h_3 h_4 h_5 h_6 h_7 h_8 c_0 c_1 c_2;obtain⟨A9,c9,B9,d9,M9,h9,k9⟩:=hPm;have H9:=ZH h9;have K9:=ZH k9;clear h9 k9;go_wp2_with fail;go_roundg (ll-(j+1))
   case measure=>omega
   case rel=>exact⟨j+1,S2,A9,c9,B9,d9,rfl,by omega,by simp,HC.out,M9,H9.out,K9.out⟩
  ·have dd1:decide ((j:Int)<(l.length:Int))=false:=decide_eq_false (by omega);have HR2:Hid (⟨n1,xs1,m1,ys1,big1⟩=R):=by
    show _=_;rw[HL.out,drop_none hlt,dotR_nil]
   clear HL;obtain⟨v1,v2,v3,v4,v5⟩:=(M.k (i:=0) rfl).fiveP;go_wp2_with ((with_reducible refine st_ ?_);refine wp_put2 _ _ (M.k (i:=1) rfl) rfl rfl rfl rfl info_sum rfl rfl ?_;intro w4 b4 g4;have HA4:=ZH (HA.out.boxed ((M.k (i:=1) rfl).box rfl) g4);have HB4:=ZH (HB.out.boxed ((M.k (i:=1) rfl).box rfl) g4);have hq:=below_own M.bel g4 ZL;obtain⟨f1,f2,f3,f4,f5⟩:=Blk.fiveP b4);refine bodyPost_ret (v:= .agg #[.bool n1,.slice A1 xs1.length c1,.bool m1,.slice B1 ys1.length d1,.bool big1]) (by simp[results,Tryz.results36,go_sem,f1,f2,f3,f4,f5]) rfl ⟨?_,hq⟩;rw[←HR2.out];exact⟨A1,c1,B1,d1,rfl,HA4.out,HB4.out⟩
def minusR (s b:Sr):Sr:=
 let p:=qnegR b.n b.xs b.m b.ys
 let t:=qaddR s.n s.xs s.m s.ys p.1 p.2.1 p.2.2.1 p.2.2.2.1
 ⟨t.1,t.2.1,t.2.2.1,t.2.2.2.1,s.big||(b.big||(p.2.2.2.2 !=0||t.2.2.2.2 !=0))⟩
theorem rminus_any {w:World}{s b:Sr}{A B A' B':Option Addr}{c d c' d':Nat}(ha:Rd w A c s.xs)(hb:Rd w B d s.ys)(ha':Rd w A' c' b.xs)(hb':Rd w B' d' b.ys):Calls Tryz.prog 48 #[.agg #[.bool s.n,.slice A s.xs.length c,.bool s.m,.slice B s.ys.length d,.bool s.big],.agg #[.bool b.n,.slice A' b.xs.length c',.bool b.m,.slice B' b.ys.length d',.bool b.big]] w fun e w'=>RetSm w w' e (minusR s b):=by
 obtain⟨n,xs,m,ys,big⟩:=s;obtain⟨n',xs',m',ys',big'⟩:=b;dsimp only at*;obtain⟨⟨p1,p2,p3,p4,p5⟩,hp⟩:∃p,qnegR n' xs' m' ys'=p:=⟨_,rfl⟩;obtain⟨⟨t1,t2,t3,t4,t5⟩,ht⟩:∃t,qaddR n xs m ys p1 p2 p3 p4=t:=⟨_,rfl⟩;have he:minusR ⟨n,xs,m,ys,big⟩ ⟨n',xs',m',ys',big'⟩=⟨t1,t2,t3,t4,big||(big'||(p5 !=0||t5 !=0))⟩:=by
  simp only[minusR,hp,ht]
 rw[he];have HP:=ZH hp;have HT:=ZH ht;obtain⟨bg,hbg⟩:∃bg,(big||(big'||(p5 !=0||t5 !=0)))=bg:=⟨_,rfl⟩;rw[hbg];have HBG:=ZH hbg;clear hp ht he hbg;have M:=(((((((Mem.start w).addR ha).addR hb).addR ha').addR hb').new tyS #[.bool n,.slice A xs.length c,.bool m,.slice B ys.length d,.bool big]).newAt (g:=w.heap.size+1) (by simp) tyS #[.bool n',.slice A' xs'.length c',.bool m',.slice B' ys'.length d',.bool big']).newAt (g:=w.heap.size+2) (by simp) tyS z5;clear ha hb ha' hb';obtain⟨v1,v2,v3,v4,v5⟩:=(M.k (i:=1) rfl).fiveP;go_enter Tryz.func48,Tryz.ntmps48;go_wp2_with fail;refine(rqneg_any (M.r (i:=1) rfl) (M.r (i:=0) rfl)).mono ?_;rw[HP.out];rintro e w6 ⟨⟨A6,c6,B6,d6,rfl,h,k⟩,q⟩;replace M:=((M.below q).addR k).addR h;have p0:=(M.k (i:=0) rfl).lt;replace M:=M.new 45 #[.bool p1,.slice A6 p2.length c6,.bool p3,.slice B6 p4.length d6];clear q h k v1 v2 v3 v4 v5;obtain⟨v1,v2,v3,v4,v5⟩:=(M.k (i:=3) rfl).fiveP;obtain⟨u1,u2,u3,u4⟩:=(M.k (i:=0) rfl).four;go_wp2_with fail;refine(rqadd_any (M.r (i:=5) rfl) (M.r (i:=4) rfl) (M.r (i:=0) rfl) (M.r (i:=1) rfl)).mono ?_;rw[HT.out];rintro e w7 ⟨⟨A7,c7,B7,d7,rfl,h,k⟩,q⟩;replace M:=((M.below q).addR k).addR h;have p1':=(M.k (i:=0) rfl).lt;replace M:=M.new 45 #[.bool t1,.slice A7 t2.length c7,.bool t3,.slice B7 t4.length d7];clear q h k v1 v2 v3 v4 v5 u1 u2 u3 u4;obtain⟨v1,v2,v3,v4,v5⟩:=(M.k (i:=4) rfl).fiveP;obtain⟨x1,x2,x3,x4,x5⟩:=(M.k (i:=3) rfl).fiveP;obtain⟨u1,u2,u3,u4⟩:=(M.k (i:=0) rfl).four;cases big with
 |true=>
  go_wp2_with ((with_reducible refine st_ ?_);refine wp_put2 _ _ (M.k (i:=2) rfl) rfl rfl rfl rfl info_sum rfl rfl ?_;intro w4 b4 g4;replace M:=M.rowAt (i:=2) rfl (by omega) (by simp<;>omega) rfl b4 g4;obtain⟨f1,f2,f3,f4,f5⟩:=(M.k (i:=2) rfl).fiveP);have hB:=HBG.out;simp only[Bool.true_or,Bool.false_or,Bool.or_true,bne_self_eq_false,Bool.or_false]at hB;subst hB;exact bodyPost_ret (v:= .agg #[.bool t1,.slice A7 t2.length c7,.bool t3,.slice B7 t4.length d7,.bool _]) (by simp[results,Tryz.results48,go_sem,f1,f2,f3,f4,f5]) rfl ⟨⟨A7,c7,B7,d7,rfl,M.r (i:=0) rfl,M.r (i:=1) rfl⟩,M.bel⟩
 |false=>
  cases big' with
  |true=>
   go_wp2_with ((with_reducible refine st_ ?_);refine wp_put2 _ _ (M.k (i:=2) rfl) rfl rfl rfl rfl info_sum rfl rfl ?_;intro w4 b4 g4;replace M:=M.rowAt (i:=2) rfl (by omega) (by simp<;>omega) rfl b4 g4;obtain⟨f1,f2,f3,f4,f5⟩:=(M.k (i:=2) rfl).fiveP);have hB:=HBG.out;simp only[Bool.true_or,Bool.false_or,Bool.or_true,bne_self_eq_false,Bool.or_false]at hB;subst hB;exact bodyPost_ret (v:= .agg #[.bool t1,.slice A7 t2.length c7,.bool t3,.slice B7 t4.length d7,.bool _]) (by simp[results,Tryz.results48,go_sem,f1,f2,f3,f4,f5]) rfl ⟨⟨A7,c7,B7,d7,rfl,M.r (i:=0) rfl,M.r (i:=1) rfl⟩,M.bel⟩
  |false=>
   by_cases h5:p5=0
   ·subst h5;by_cases h6:t5=0
    ·subst h6;go_wp2_with ((with_reducible refine st_ ?_);refine wp_put2 _ _ (M.k (i:=2) rfl) rfl rfl rfl rfl info_sum rfl rfl ?_;intro w4 b4 g4;replace M:=M.rowAt (i:=2) rfl (by omega) (by simp<;>omega) rfl b4 g4;obtain⟨f1,f2,f3,f4,f5⟩:=(M.k (i:=2) rfl).fiveP);have hB:=HBG.out;simp only[Bool.true_or,Bool.false_or,Bool.or_true,bne_self_eq_false,Bool.or_false]at hB;subst hB;exact bodyPost_ret (v:= .agg #[.bool t1,.slice A7 t2.length c7,.bool t3,.slice B7 t4.length d7,.bool _]) (by simp[results,Tryz.results48,go_sem,f1,f2,f3,f4,f5]) rfl ⟨⟨A7,c7,B7,d7,rfl,M.r (i:=0) rfl,M.r (i:=1) rfl⟩,M.bel⟩
    ·have h6':(t5 !=0)=true:=by simp[h6]
     rw[h6']at HBG;clear h6;go_wp2_with ((with_reducible refine st_ ?_);refine wp_put2 _ _ (M.k (i:=2) rfl) rfl rfl rfl rfl info_sum rfl rfl ?_;intro w4 b4 g4;replace M:=M.rowAt (i:=2) rfl (by omega) (by simp<;>omega) rfl b4 g4;obtain⟨f1,f2,f3,f4,f5⟩:=(M.k (i:=2) rfl).fiveP);have hB:=HBG.out;simp only[Bool.true_or,Bool.false_or,Bool.or_true,bne_self_eq_false,Bool.or_false]at hB;subst hB;exact bodyPost_ret (v:= .agg #[.bool t1,.slice A7 t2.length c7,.bool t3,.slice B7 t4.length d7,.bool _]) (by simp[results,Tryz.results48,go_sem,f1,f2,f3,f4,f5]) rfl ⟨⟨A7,c7,B7,d7,rfl,M.r (i:=0) rfl,M.r (i:=1) rfl⟩,M.bel⟩
   ·have h5':(p5 !=0)=true:=by simp[h5]
    rw[h5']at HBG;clear h5;go_wp2_with ((with_reducible refine st_ ?_);refine wp_put2 _ _ (M.k (i:=2) rfl) rfl rfl rfl rfl info_sum rfl rfl ?_;intro w4 b4 g4;replace M:=M.rowAt (i:=2) rfl (by omega) (by simp<;>omega) rfl b4 g4;obtain⟨f1,f2,f3,f4,f5⟩:=(M.k (i:=2) rfl).fiveP);have hB:=HBG.out;simp only[Bool.true_or,Bool.false_or,Bool.or_true,bne_self_eq_false,Bool.or_false]at hB;subst hB;exact bodyPost_ret (v:= .agg #[.bool t1,.slice A7 t2.length c7,.bool t3,.slice B7 t4.length d7,.bool _]) (by simp[results,Tryz.results48,go_sem,f1,f2,f3,f4,f5]) rfl ⟨⟨A7,c7,B7,d7,rfl,M.r (i:=0) rfl,M.r (i:=1) rfl⟩,M.bel⟩
abbrev tyR:TypeId:=25
theorem rnumbers_any {w:World}{m:Pa}{p:Pg}{A:Option Addr}{c:Nat}{l:List Fr}(h:GRow w A l)(hs:l.length≤1000000):Calls Tryz.prog 37 #[.agg (pgC m p),.slice A l.length c] w fun e w'=>e= .returned (.bool (numbersB p l))∧Below w.heap.size w w':=by
 have HG:=ZH h;have M:=(Mem.start w).new tyR (pgC m p);obtain⟨p0,p1,p2,p3,p4⟩:=(M.k (i:=0) rfl).fiveP;clear h;by_cases hl:l.length=p.a.length
 ·have d0:((l.length:Int) !=(p.a.length:Int))=false:=by rw[hl];simp
  obtain⟨R,hR⟩:∃R,numbersB p l=R:=⟨_,rfl⟩;rw[hR];have HR:Hid (R=(l.drop 0).all frB):=by
   show R=_;rw[←hR];unfold numbersB;rw[decide_eq_true hl];rfl
  generalize p.a.length=la at*;subst hl;clear hR;go_enter Tryz.func37,Tryz.ntmps37;go_wp2_with fail;go_loopg [5] l.length (fun k pp wr=>∃j,k=l.length-j∧j≤l.length∧pp= .int .i64 (j:Nat)∧Hid (R=(l.drop j).all frB)∧Below w.heap.size w wr)
  case atStart=>exact⟨0,rfl,Nat.zero_le _,rfl,HR.out,M.bel⟩
  case round=>
   clear HR M p0 p1 p2 p3 p4;obtain⟨j,hk,hj,rfl,HL,hq⟩:=hrel;by_cases hlt:j<l.length
   ·have d1:decide ((j:Int)<(l.length:Int))=true:=decide_eq_true (by omega);obtain⟨g,o,rfl,A',c',B',d',a1,a2,a3,a4,hx,hy⟩:=(HG.out.below hq) j hlt;have HC:Hid (R=((qright (l.getD j fr0).n (l.getD j fr0).xs (l.getD j fr0).m (l.getD j fr0).ys&& !(l.getD j fr0).n)&&(l.drop (j+1)).all frB)):=by
     show _=_;rw[HL.out,drop_at (z:=fr0) hlt,frB_step];rfl
    generalize (l.getD j fr0).n=n1 at*;generalize (l.getD j fr0).xs=xs1 at*;generalize (l.getD j fr0).m=n2 at*;generalize (l.getD j fr0).ys=ys1 at*;have X1:=Lk.of a1;have X2:=Lk.of a2;have X3:=Lk.of a3;have X4:=Lk.of a4;have HQR:=ZH (rqright_any (n:=n1) (m:=n2) hx hy);have HQ2:=ZH hq;clear HL hx hy hq;cases hqr:qright n1 xs1 n2 ys1 with
    |false=>
     have HC2:Hid (R=false):=HC.out.trans (by rw[hqr];rfl);rw[hqr]at HQR;clear HC hqr;go_wp2_with fail;refine HQR.out.mono ?_;rintro e w6 ⟨rfl,q6⟩;go_wp2_with fail;exact bodyPost_ret (v:= .bool false) (by simp[results,Tryz.results37,go_sem]) rfl ⟨by rw[HC2.out],below_trans HQ2.out q6⟩
    |true=>
     rw[hqr]at HQR HC;clear hqr;go_wp2_with fail;refine HQR.out.mono ?_;rintro e w6 ⟨rfl,q6⟩;have b1:=X1 _ q6;have b2:=X2 _ q6;have b3:=X3 _ q6;have b4:=X4 _ q6;go_wp2_with fail;refine(rbelow_any (n:=n1) (m:=n2)).mono ?_;rintro e w7 ⟨rfl,q7⟩;have hq7:=below_trans (below_trans HQ2.out q6) q7;cases n1 with
     |true=>
      have HC2:Hid (R=false):=HC.out.trans rfl;go_wp2_with fail;exact bodyPost_ret (v:= .bool false) (by simp[results,Tryz.results37,go_sem]) rfl ⟨by rw[HC2.out],hq7⟩
     |false=>
      have HC2:Hid (R=(l.drop (j+1)).all frB):=HC.out.trans rfl;clear HC;go_wp2_with fail;go_roundg (l.length-(j+1))
      case measure=>omega
      case rel=>exact⟨j+1,rfl,by omega,by simp,HC2.out,hq7⟩
   ·have d1:decide ((j:Int)<(l.length:Int))=false:=decide_eq_false (by omega);have HC2:Hid (R=true):=by
     show _=_;rw[HL.out,drop_none hlt];rfl
    clear HL;go_wp2_with fail;exact bodyPost_ret (v:= .bool true) (by simp[results,Tryz.results37,go_sem]) rfl ⟨by rw[HC2.out],hq⟩
 ·have d0:((l.length:Int) !=(p.a.length:Int))=true:=by
   rw[bne_iff_ne];omega
  have HR:Hid (numbersB p l=false):=by
   show numbersB p l=false;unfold numbersB;rw[decide_eq_false hl];rfl
  generalize numbersB p l=R at*;generalize p.a.length=la at*;clear hl;go_enter Tryz.func37,Tryz.ntmps37;go_wp2_with fail;exact bodyPost_ret (v:= .bool false) (by simp[results,Tryz.results37,go_sem]) rfl ⟨by rw[HR.out],M.bel⟩
theorem rone_any {w:World}{z:Int}:Calls Tryz.prog 65 #[.int .i64 z] w fun e w'=>e= .returned (.bool (decide (-1048576≤z)&&decide (z≤1048576)))∧Below w.heap.size w w':=by
 by_cases h1: -1048576≤z
 ·have d1:decide (-1048576≤z)=true:=decide_eq_true h1;by_cases h2:z≤1048576
  ·have d2:decide (z≤1048576)=true:=decide_eq_true h2;have HR:Hid ((decide (-1048576≤z)&&decide (z≤1048576))=true):=by
    show _=_;rw[d1,d2];rfl
   obtain⟨R,hR⟩:∃R,(decide (-1048576≤z)&&decide (z≤1048576))=R:=⟨_,rfl⟩;rw[hR]at HR⊢;clear hR;go_enter Tryz.func65,Tryz.ntmps65;go_wp2_with fail;exact bodyPost_ret (v:= .bool true) (by simp[results,Tryz.results65,go_sem]) rfl ⟨by rw[HR.out],Below.refl _ _⟩
  ·have d2:decide (z≤1048576)=false:=decide_eq_false h2;have HR:Hid ((decide (-1048576≤z)&&decide (z≤1048576))=false):=by
    show _=_;rw[d1,d2];rfl
   obtain⟨R,hR⟩:∃R,(decide (-1048576≤z)&&decide (z≤1048576))=R:=⟨_,rfl⟩;rw[hR]at HR⊢;clear hR;go_enter Tryz.func65,Tryz.ntmps65;go_wp2_with fail;exact bodyPost_ret (v:= .bool false) (by simp[results,Tryz.results65,go_sem]) rfl ⟨by rw[HR.out],Below.refl _ _⟩
 ·have d1:decide (-1048576≤z)=false:=decide_eq_false h1;have HR:Hid ((decide (-1048576≤z)&&decide (z≤1048576))=false):=by
   show _=_;rw[d1];rfl
  obtain⟨R,hR⟩:∃R,(decide (-1048576≤z)&&decide (z≤1048576))=R:=⟨_,rfl⟩;rw[hR]at HR⊢;clear hR;go_enter Tryz.func65,Tryz.ntmps65;go_wp2_with fail;exact bodyPost_ret (v:= .bool false) (by simp[results,Tryz.results65,go_sem]) rfl ⟨by rw[HR.out],Below.refl _ _⟩
theorem rwithin_any {w:World}{A:Option Addr}{c:Nat}{l:List Int}(h:IRow w A l)(hs:l.length≤1000000):Calls Tryz.prog 33 #[.slice A l.length c] w fun e w'=>e= .returned (.bool (nearL 1048576 l))∧Below w.heap.size w w':=by
 have HI:=ZH h;obtain⟨R,hR⟩:∃R,nearL 1048576 l=R:=⟨_,rfl⟩;rw[hR];have HR:Hid (R=nearL 1048576 (l.drop 0)):=hR.symm;clear hR h;go_enter Tryz.func33,Tryz.ntmps33;go_wp2_with fail;go_loopg [3] l.length (fun k p wr=>∃j,k=l.length-j∧j≤l.length∧p= .int .i64 (j:Nat)∧Hid (R=nearL 1048576 (l.drop j))∧Below w.heap.size w wr)
 case atStart=>exact⟨0,rfl,Nat.zero_le _,rfl,HR.out,Below.refl _ _⟩
 case round=>
  clear HR;obtain⟨j,hk,hj,rfl,HL,hq⟩:=hrel;by_cases hlt:j<l.length
  ·have d1:decide ((j:Int)<(l.length:Int))=true:=decide_eq_true (by omega);obtain⟨g,o,rfl,cj⟩:=(HI.out.below hq) j hlt;replace cj:wr.cell? ⟨g,o+j,none⟩=some (.int .i64 (l.getD j 0)):=cj;have HC:Hid (R=((decide (-1048576≤l.getD j 0)&&decide (l.getD j 0≤1048576))&&nearL 1048576 (l.drop (j+1)))):=by
    show _=_;rw[HL.out,drop_at (z:=0) hlt,nearL_step]
   have HW:=ZH (fun w=>rone_any (w:=w) (z:=l.getD j 0));generalize (decide (-1048576≤l.getD j 0)&&decide (l.getD j 0≤1048576))=T at*;generalize l.getD j 0=z at*;clear HL;go_wp2_with fail;refine(HW.out _).mono ?_;rintro e w6 ⟨rfl,q6⟩;have hq6:=below_trans hq q6;cases T with
   |false=>
    have HC2:Hid (R=false):=HC.out.trans rfl;clear HC;go_wp2_with fail;exact bodyPost_ret (v:= .bool false) (by simp[results,Tryz.results33,go_sem]) rfl ⟨by rw[HC2.out],hq6⟩
   |true=>
    have HC2:Hid (R=nearL 1048576 (l.drop (j+1))):=HC.out.trans rfl;clear HC;go_wp2_with fail;go_roundg (l.length-(j+1))
    case measure=>omega
    case rel=>exact⟨j+1,rfl,by omega,by simp,HC2.out,hq6⟩
  ·have d1:decide ((j:Int)<(l.length:Int))=false:=decide_eq_false (by omega);have HC2:Hid (R=true):=by
    show _=_;rw[HL.out,drop_none hlt];rfl
   clear HL;go_wp2_with fail;exact bodyPost_ret (v:= .bool true) (by simp[results,Tryz.results33,go_sem]) rfl ⟨by rw[HC2.out],hq⟩
def srO:Option Rat→Sr
 |some q=>⟨sN q.num,sD q.num,false,dig q.den,false⟩
 |none=>⟨false,[],false,[],true⟩
theorem qright_nil:qright false [] false []=false:=rfl
theorem qadd_nil_l (n:Bool)(xs:List Nat)(m:Bool)(ys:List Nat):qaddR false [] false [] n xs m ys=dbad 2:=by
 unfold qaddR;rw[qright_nil,Bool.false_and];rfl
theorem qadd_nil_r (n:Bool)(xs:List Nat)(m:Bool)(ys:List Nat):qaddR n xs m ys false [] false []=dbad 2:=by
 unfold qaddR;rw[qright_nil,Bool.and_false];rfl
theorem few_i64 {z:Int}(h1: -9223372036854775808≤z)(h2:z≤9223372036854775807):Few (z:Rat):=few_int (Nat.le_trans (sD_small (k:=2) (by omega)) (by decide))
theorem qmul_of {x:Rat}{z:Int}(hx:Few x)(hz:Few (z:Rat)):qmulR (sN x.num) (sD x.num) false (dig x.den) (sN z) (sD z) false [1]=fitQ (x*z):=by
 have h:=qright_rat hz;rw[den_int]at h;have e:qmulR (sN x.num) (sD x.num) false (dig x.den) (sN (z:Rat).num) (sD (z:Rat).num) false (dig (z:Rat).den)=fitQ (x*z):=by
  unfold qmulR;rw[qright_rat hx,qright_rat hz,if_pos (by decide),toQ_rat,toQ_rat]
 rw[den_int]at e;exact e
theorem qadd_of {x y:Rat}(hx:Few x)(hy:Few y):qaddR (sN x.num) (sD x.num) false (dig x.den) (sN y.num) (sD y.num) false (dig y.den)=fitQ (x+y):=by
 unfold qaddR;rw[qright_rat hx,qright_rat hy,if_pos (by decide),toQ_rat,toQ_rat]
theorem plusR_rat {o:Option Rat}{x:Rat}{z:Int}(ho:∀s,o=some s→Few s)(hx:Few x)(h1: -9223372036854775808≤z)(h2:z≤9223372036854775807):plusR (srO o) (frq x) z=srO (o.bind fun s=>(mulO x z).bind fun p=>addO s p):=by
 have hm:=qmul_of hx (few_i64 h1 h2);have hp:plusR (srO o) (frq x) z=(let p:=fitQ (x*z);let t:=qaddR (srO o).n (srO o).xs (srO o).m (srO o).ys p.1 p.2.1 p.2.2.1 p.2.2.2.1;⟨t.1,t.2.1,t.2.2.1,t.2.2.2.1,(srO o).big||(p.2.2.2.2 !=0||t.2.2.2.2 !=0)⟩):=by
  unfold plusR frq;simp only[hm]
 rw[hp];cases o with
 |none=>
  simp only[srO,qadd_nil_l,dbad,Bool.true_or,Option.bind_none]
 |some s=>
  have hs:=ho s rfl;rcases told_fit (x*z) with ⟨r,e1,e2,e3⟩|⟨e1,k,hk,e3⟩
  ·have em:mulO x z=some r:=e1;rw[e3];show _=srO (((mulO x z).bind fun p=>addO s p));rw[em];simp only[srO,qok,qadd_of hs e2];rcases told_fit (s+r) with ⟨r2,a1,a2,a3⟩|⟨a1,k2,hk2,a3⟩
   ·have ea:addO s r=some r2:=a1;rw[a3];show _=srO (addO s r);rw[ea];rfl
   ·have ea:addO s r=none:=a1;rw[a3];show _=srO (addO s r);rw[ea];simp[srO,dbad,hk2]
  ·have em:mulO x z=none:=e1;rw[e3];show _=srO (((mulO x z).bind fun p=>addO s p));rw[em];simp[srO,dbad,qadd_nil_r,hk]
theorem dotR_none (qs:List Fr):∀zs:List Int,(∀x∈qs,∃q,x=frq q∧Few q)→(∀z∈zs,-9223372036854775808≤z∧z≤9223372036854775807)→dotR (srO none) qs zs=srO none:=by
 induction qs with
 |nil=>intro zs _ _;exact dotR_nil _ _
 |cons x l ih=>
  intro zs h h64;cases zs with
  |nil=>rfl
  |cons z m=>
   obtain⟨q,rfl,hq⟩:=h x List.mem_cons_self;obtain⟨h1,h2⟩:=h64 z List.mem_cons_self;show dotR (plusR (srO none) (frq q) z) l m=_;rw[plusR_rat (fun s e=>by cases e) hq h1 h2];exact ih m (fun y hy=>h y (List.mem_cons_of_mem _ hy)) (fun y hy=>h64 y (List.mem_cons_of_mem _ hy))
theorem dotR_rat:∀(l:List Rat)(zs:List Int){s:Rat},Few s→(∀q∈l,Few q)→(∀z∈zs,-9223372036854775808≤z∧z≤9223372036854775807)→dotR (srO (some s)) (l.map frq) zs=srO (dotO s l zs)
 |[],zs,s,hs,hl,hz=>by rw[List.map_nil,dotR_nil];cases zs<;>rfl
 |x::l,[],s,hs,hl,hz=>rfl
 |x::l,z::m,s,hs,hl,hz=>by
  obtain⟨h1,h2⟩:=hz z List.mem_cons_self;have hl':∀q∈l,Few q:=fun q hq=>hl q (List.mem_cons_of_mem _ hq);have hz':∀y∈m,-9223372036854775808≤y∧y≤9223372036854775807:=fun y hy=>hz y (List.mem_cons_of_mem _ hy);have hn:dotR (srO none) (l.map frq) m=srO none:=dotR_none _ _ (fun y hy=>by
   obtain⟨q,hq,rfl⟩:=List.mem_map.1 hy;exact⟨q,rfl,hl' q hq⟩) hz'
  show dotR (plusR (srO (some s)) (frq x) z) (l.map frq) m=srO ((mulO x z).bind fun p=>(addO s p).bind fun t=>dotO t l m);rw[plusR_rat (fun t e=>by injection e with e;subst e;exact hs) (hl x List.mem_cons_self) h1 h2];show dotR (srO ((mulO x z).bind fun p=>addO s p)) (l.map frq) m=_;cases h3:mulO x z with
  |none=>exact hn
  |some p=>
   show dotR (srO (addO s p)) (l.map frq) m=srO ((addO s p).bind fun t=>dotO t l m);cases h4:addO s p with
   |none=>exact hn
   |some t=>exact dotR_rat l m (qfit_some h4).2 hl' hz'
theorem qneg_of {x:Rat}(hx:Few x):qnegR (sN x.num) (sD x.num) false (dig x.den)=qok (-x):=by
 unfold qnegR;rw[qright_rat hx,if_pos rfl,toQ_rat]
theorem minusR_rat {o b:Option Rat}(ho:∀s,o=some s→Few s)(hb:∀s,b=some s→Few s):minusR (srO o) (srO b)=srO (o.bind fun s=>b.bind fun d=>subO s d):=by
 cases o with
 |none=>simp only[minusR,srO,qadd_nil_l,dbad,Bool.true_or,Option.bind_none]
 |some s=>
  have hs:=ho s rfl;cases b with
  |none=>
   have e:qnegR false [] false []=dbad 2:=rfl;simp[minusR,srO,e,dbad,qadd_nil_r]
  |some d=>
   have hd:=hb d rfl;simp only[minusR,srO,qneg_of hd,qok,qadd_of hs (few_neg hd)];rcases told_fit (s+ -d) with ⟨r2,a1,a2,a3⟩|⟨a1,k2,hk2,a3⟩
   ·have ea:subO s d=some r2:=a1;rw[a3];show _=srO (subO s d);rw[ea];rfl
   ·have ea:subO s d=none:=a1;rw[a3];show _=srO (subO s d);rw[ea];simp[srO,dbad,hk2]
theorem info_pi64:(Tryz.prog.info? 2).map (fun i=>(i.zero,i.size,i.bytes))=some (some (.int .i64 0),1,8):=by kernel_rfl
theorem rcolumn_any {w:World}{m:Pa}{p:Pg}{j:Nat}(hp:PgAt w m p)(hc:∀i,i<p.a.length→j<(p.a.getD i []).length)(hs:p.a.length≤1000):Calls Tryz.prog 86 #[.agg (pgC m p),iv6 j] w fun e w'=>∃A c,e= .returned (.slice A p.a.length c)∧IRow w' A (colL p j)∧Below w.heap.size w w':=by
 have HP:=ZH hp;have HC:=ZH hc;have HB0:=ZH (Blk.new w tyR (pgC m p));have HW0:=ZH (below_alloc1 w (.cells (pgC m p) tyR));obtain⟨la,hla⟩:∃la,p.a.length=la:=⟨_,rfl⟩;have HLA:=ZH hla;rw[hla]at hs⊢;clear hp hc hla;go_enter Tryz.func86,Tryz.ntmps86;go_wp2_with fail;go_loopg [6,5] la (fun k pp v wr=>∃(i:Nat)(A:Option Addr)(c:Nat),k=la-i∧i≤la∧pp= .int .i64 (i:Nat)∧v= .slice A i c∧Hid (NRow wr (w.heap.size+1) 2 1 (.slice A i c) i (((colL p j).take i).map fun z=>Value.int .i64 z))∧Hid (Below (w.heap.size+1) (w.alloc (.cells (pgC m p) tyR)) wr))
 case atStart=>exact⟨0,none,0,rfl,Nat.zero_le _,rfl,rfl,NRow.nil _ _ _ _,Below.refl _ _⟩
 case round=>
  obtain⟨i,A,c,hk,hi,rfl,rfl,HN,HQ⟩:=hrel;have HQ0:=ZH (HW0.out.trans (HQ.out.mono (Nat.le_succ _)));obtain⟨b0,b1,b2,b3,b4⟩:=(HB0.out.below HQ.out (by simp)).fiveP;rw[HLA.out]at b2;by_cases hlt:i<la
  ·have d1:decide ((i:Int)<(la:Int))=true:=decide_eq_true (by omega);have hip:i<p.a.length:=by rw[HLA.out];exact hlt
   obtain⟨ga,oa,hA,ci⟩:=(HP.out.below HQ0.out).ap i hip;replace ci:wr.cell? ⟨ga,oa+i,none⟩=some (.slice (m.rs.getD i (none,0)).1 (p.a.getD i []).length (m.rs.getD i (none,0)).2):=ci;obtain⟨gr,or,hR,cj⟩:=(HP.out.below HQ0.out).ar i hip j (HC.out i hip);replace cj:wr.cell? ⟨gr,or+j,none⟩=some (.int .i64 ((p.a.getD i []).getD j 0)):=cj;have hjl:=HC.out i hip;rw[hA]at b2;rw[hR]at ci;have hx:((colL p j).take (i+1)).map (fun z=>Value.int .i64 z)=((colL p j).take i).map (fun z=>Value.int .i64 z)++[.int .i64 ((p.a.getD i []).getD j 0)]:=by
    have hcl:i<(colL p j).length:=by unfold colL;rw[List.length_map];exact hip
    rw[List.take_add_one,List.getElem?_eq_getElem hcl,List.map_append];congr 1;show[Value.int .i64 ((colL p j)[i])]=_;rw[←colL_at hip,List.getD_eq_getElem?_getD,List.getElem?_eq_getElem hcl];rfl
   have HX:=ZH hx;generalize ((colL p j).take i).map (fun z=>Value.int .i64 z)=xs at*;generalize (p.a.getD i []).getD j 0=z at*;generalize (p.a.getD i []).length=lr at*;generalize m.a.2=ca at*;generalize (m.rs.getD i (none,0)).2=cr at*;have hbs:w.heap.size+1≤wr.heap.size:=by have:=HQ.out.size;simp at this;omega
   have hi6:i≤1000000:=by omega
   clear hx hip hA hR;go_wp2_with (at_builtin;refine wp_appNu _ _ wr (w.heap.size+1) 2 1 (.slice A i c) i xs #[.int .i64 z] (by first|rfl|simp) Tryz.underlying22 info_pi64 rfl rfl (by decide) (by decide) HN.out hbs hi6 rfl rfl rfl rfl rfl rfl rfl ?_;intro v7 w7 r1 r2 r3 r4;obtain⟨A7,c7,rfl⟩:=r1.slice);go_roundg (la-(i+1))
   case measure=>omega
   case rel=>exact⟨i+1,A7,c7,rfl,by omega,by simp,rfl,by (show NRow _ _ _ _ _ _ _);rw[HX.out];exact r1,HQ.out.trans r3⟩
  ·have d1:decide ((i:Int)<(la:Int))=false:=decide_eq_false (by omega);have hil:i=la:=by omega
   subst hil;have hlc:(colL p j).length=i:=by unfold colL;rw[List.length_map];exact HLA.out
   have hrow:IRow wr A (colL p j):=by
    have h1:=HN.out;unfold IRow;rw[hlc];refine h1.crow fun k hk=> ?_;rw[List.take_of_length_le (by omega),List.getElem?_map,List.getD_eq_getElem?_getD,List.getElem?_eq_getElem (by omega)];rfl
   have HR:=ZH hrow;clear hrow hlc HN;go_wp2_with fail;exact bodyPost_ret (v:= .slice A i c) (by simp[results,Tryz.results86,go_sem]) rfl ⟨A,c,rfl,HR.out,HQ0.out⟩
end Go.Proofs.YtpnmcacndjkfaaaGreat

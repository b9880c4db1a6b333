/-
  Joined texts: KT, KU, KV, Fa.
-/
import Derived.Test.YtpnmcacndjkfaaaGreatKS
import Derived.Test.YtpnmcacndjkfaaaGreatKZ
set_option maxHeartbeats 8000000
set_option maxRecDepth 100000
set_option linter.unusedSimpArgs false
set_option linter.unusedVariables false
namespace Go.Proofs.YtpnmcacndjkfaaaGreat
open Go.RowKit Num
def srf (s:Sr):Fr:=⟨s.n,s.xs,s.m,s.ys⟩
theorem plus_srO {o d:Option Rat} {z:Int} (ho:∀s,o=some s→Few s) (hd:∀s,d=some s→Few s) (h1: -9223372036854775808≤z) (h2:z≤9223372036854775807):plusR (srO o) (srf (srO d)) z=srO (o.bind fun s=>d.bind fun x=>(mulO x z).bind fun p=>addO s p):=by
 cases d with
 |some x=>exact plusR_rat ho (hd x rfl) h1 h2
 |none=>
  have e:qmulR false [] false [] (sN z) (sD z) false [1]=dbad 2:=by
   unfold qmulR;rw[qright_nil,Bool.false_and];rfl
  have e2:(o.bind fun s=>(none:Option Rat).bind fun x=>(mulO x z).bind fun p=>addO s p)=none:=by cases o<;>rfl
  rw[e2];show plusR (srO o) ⟨false,[],false,[]⟩ z=_;simp[plusR,e,dbad,qadd_nil_r,srO]
def dcol (p:Pg) (y:List Rat) (c:Option (List Int)) (j:Nat):Option Rat:=(dotO 0 y (colL p j)).bind (addC c j)
def endZ (d:Option Rat) (l h:Int):Int:=if (srO d).n then h else l
theorem sN_lt (q:Rat):sN q.num=decide (q<0):=by
 by_cases h:q<0
 ·rw[decide_eq_true h];have:=Rat.not_le.2 h;exact decide_eq_true (Int.not_le.1 fun h2=>this (Rat.num_nonneg.1 h2))
 ·rw[decide_eq_false h];exact decide_eq_false (Int.not_lt.2 (Rat.num_nonneg.2 (Rat.not_lt.1 h)))
theorem least_next (p:Pg) (y:List Rat) (c:Option (List Int)) (j:Nat) (o:Option Rat) (l h:Int) (r:List (Int×Int)):(o.bind fun s=>leastO p y c j s ((l,h)::r))=(o.bind fun s=>(dcol p y c j).bind fun x=>(mulO x ((endZ (dcol p y c j) l h:Int):Rat)).bind fun m=>addO s m).bind fun t=>leastO p y c (j+1) t r:=by
 cases o with
 |none=>rfl
 |some s=>
  show leastO p y c j s ((l,h)::r)=Option.bind ((dcol p y c j).bind _) _;rw[leastO_step];unfold dcol;cases dotO 0 y (colL p j) with
  |none=>rfl
  |some d0=>
   show Option.bind (addC c j d0) _=Option.bind (Option.bind (addC c j d0) _) _;cases hd:addC c j d0 with
   |none=>rfl
   |some d=>
    have e:((endZ (some d) l h:Int):Rat)=if d<0 then (h:Rat) else (l:Rat):=by
     unfold endZ;show (((if sN d.num=true then h else l:Int)):Rat)=_;rw[sN_lt];by_cases hh:d<0
     ·rw[decide_eq_true hh,if_pos rfl,if_pos hh]
     ·rw[decide_eq_false hh,if_neg (by decide),if_neg hh]
    have e':(some d0).bind (addC c j)=some d:=hd;rw[e'];show _=Option.bind (Option.bind (mulO d ((endZ (some d) l h:Int):Rat)) _) _;rw[e];rfl
theorem addO_few {a b:Rat} {q:Rat} (h:addO a b=some q):Few q:=(qfit_some h).2
theorem bind_few {o:Option Rat} {f:Rat→Option Rat} (hf:∀s q,f s=some q→Few q):∀q,o.bind f=some q→Few q:=fun q h=>by
 obtain ⟨s,_,h2⟩:=Option.bind_eq_some_iff.1 h;exact hf s q h2
theorem dot_few:∀(l:List Rat) (m:List Int) {s t:Rat},Few s→dotO s l m=some t→Few t
 |[],m,s,t,hs,h=>by
  unfold dotO at h;cases h;exact hs
 |x::l,[],s,t,hs,h=>by
  unfold dotO at h;cases h;exact hs
 |x::l,n::m,s,t,hs,h=>by
  unfold dotO at h;obtain ⟨p,hp,h⟩:=Option.bind_eq_some_iff.1 h;obtain ⟨u,hu,h⟩:=Option.bind_eq_some_iff.1 h;exact dot_few l m (qfit_some hu).2 h
theorem few_zero:Few (0:Rat):=few_i64 (z:=0) (by decide) (by decide)
theorem sr0_eq:sr0=srO (some 0):=rfl
theorem dcol_few {p:Pg} {y:List Rat} {c:Option (List Int)} {j:Nat}:∀q,dcol p y c j=some q→Few q:=fun q h=>by
 obtain ⟨d,h1,h2⟩:=Option.bind_eq_some_iff.1 h;cases c with
 |none=>
  have:some d=some q:=h2;cases this;exact dot_few _ _ few_zero h1
 |some c=>exact addO_few h2
theorem mul_one_of {z:Int} (h1: -9223372036854775808≤z) (h2:z≤9223372036854775807):mulO (z:Rat) ((1:Int):Rat)=some (z:Rat):=by
 have e:(z:Rat)*((1:Int):Rat)=z:=Rat.mul_one _;unfold mulO;rw[e];exact qfit_of (few_i64 h1 h2)
theorem plus_cost {o:Option Rat} {z:Int} (ho:∀s,o=some s→Few s) (h1: -9223372036854775808≤z) (h2:z≤9223372036854775807):plusR (srO o) (frq (z:Rat)) 1=srO (o.bind fun d=>addO d (z:Rat)):=by
 rw[plusR_rat ho (few_i64 h1 h2) (by decide) (by decide),mul_one_of h1 h2];rfl
theorem srO_big_iff (o:Option Rat):(srO o).big=o.isNone:=by cases o<;>rfl
abbrev smC (s:Sr) (A:Option Addr) (c:Nat) (B:Option Addr) (d:Nat):Array Value:= #[.bool s.n,.slice A s.xs.length c,.bool s.m,.slice B s.ys.length d,.bool s.big]
theorem frq_int (z:Int):frq (z:Rat)=⟨sN z,sD z,false,[1]⟩:=by
 unfold frq;rw[Rat.num_intCast,den_int]
theorem RetSm.elim {w w':World} {e:Ending} {n:Bool} {xs:List Nat} {m:Bool} {ys:List Nat} {b:Bool} (h:RetSm w w' e ⟨n,xs,m,ys,b⟩):(∃A c B d,e= .returned (.agg #[.bool n,.slice A xs.length c,.bool m,.slice B ys.length d,.bool b])∧Rd w' A c xs∧Rd w' B d ys)∧Below w.heap.size w w':=h
theorem Mem.on {w0 w1 w:World} {Ks:List (Nat×TypeId×Array Value)} {Rs:List (Option Addr×Nat×List Nat)} (M:Mem w1 w Ks Rs) (q:Below w0.heap.size w0 w1):Mem w0 w Ks Rs:=⟨below_trans q M.bel,M.ks,M.rs⟩
theorem rleast_any {w:World} {m:Pa} {p:Pg} {y:List Rat} {AY:Option Addr} {cY:Nat} {b:Bool} {c:Option (List Int)} (hc:c=if b then some p.c else none) (hp:PgAt w m p) (hok:PgOk p) (hy:GRow w AY (y.map frq)) (hf:∀q∈y,Few q) (hl:y.length=p.a.length):Calls Tryz.prog 49 #[.agg (pgC m p),.slice AY y.length cY,.bool b] w fun e w'=>RetSm w w' e (srO (leastO p y c 0 0 (p.lo.zip p.hi))):=by
 have HP:=Lib.hid hp;have HOK:=Lib.hid hok;have HLY:=Lib.hid hl;obtain ⟨L,hL⟩:∃L,y.length=L:=⟨_,rfl⟩;have HD:=Lib.hid (show ∀(w':World) (A:Option Addr) (c:Nat) (j:Nat),j<p.lo.length→Below w.heap.size w w'→IRow w' A (colL p j)→Calls Tryz.prog 36 #[.slice AY L cY,.slice A p.a.length c] w' fun e w2=>RetSm w' w2 e (srO (dotO 0 y (colL p j))) from fun w' A c j hj q hr=>by
  have hcl:(colL p j).length=p.a.length:=by unfold colL;rw[List.length_map]
  have h64:∀i,i<(colL p j).length→-9223372036854775808≤(colL p j).getD i 0∧(colL p j).getD i 0≤9223372036854775807:=fun i hi=>by
   rw[hcl]at hi;rw[colL_at hi];exact hok.ia i hi j hj
  have h1:=rdot_any (c:=cY) (cz:=c) (hy.below q) hr (by rw[List.length_map,hcl,hl];exact Nat.le_refl _) (by have:=hok.a;rw[List.length_map,hl];omega) h64;rw[sr0_eq,dotR_rat y (colL p j) few_zero hf (fun z hz=>by
   obtain ⟨i,hi,rfl⟩:=List.getElem_of_mem hz;have:=h64 i hi;rwa[List.getD_eq_getElem?_getD,List.getElem?_eq_getElem hi]at this),List.length_map,hcl,hL]at h1
  exact h1)
 rw[hL];have HCO:=Lib.hid hc;have HOF:=Lib.hid (fun w=>rqof_any 0 w (by decide) (by decide));obtain ⟨R,hR⟩:∃R,srO (leastO p y c 0 0 (p.lo.zip p.hi))=R:=⟨_,rfl⟩;rw[hR];have HR:Hid (R=srO ((some 0).bind fun s=>leastO p y c 0 s ((p.lo.zip p.hi).drop 0))):=hR.symm;have HF0:Hid (∀s,(some (0:Rat))=some s→Few s):=fun s e=>by cases e;exact few_zero
 have M:=((Mem.start w).new tyR (pgC m p)).newAt (g:=w.heap.size+1) (by simp) tyS z5;clear hp hok hc hy hf hR hl hL;go_enter Tryz.func49,Tryz.ntmps49;go_wp2_with fail;refine (HOF.out _).mono ?_;rintro e w1 ⟨⟨A0,c0,B0,d0,rfl,h0,k0⟩,q1⟩;replace M:=M.below q1;have p1:=(M.k (i:=0) rfl).lt;have HA0:=Lib.hid (h0.below (below_alloc1 w1 (.cells (smC (srO (some 0)) A0 c0 B0 d0) tyS)) (Nat.le_refl _));have HB0:=Lib.hid (k0.below (below_alloc1 w1 (.cells (smC (srO (some 0)) A0 c0 B0 d0) tyS)) (Nat.le_refl _));replace M:=M.new tyS (smC (srO (some 0)) A0 c0 B0 d0);clear h0 k0 q1;go_upto_region 3 with fail;generalize w1.heap.size=g7 at*;go_loopg [8] p.lo.length (fun k pp wr=>∃(j:Nat) (o:Option Rat) (A:Option Addr) (c':Nat) (B:Option Addr) (d:Nat),k=p.lo.length-j∧j≤p.lo.length∧pp= .int .i64 (j:Nat)∧Hid (R=srO (o.bind fun s=>leastO p y c j s ((p.lo.zip p.hi).drop j)))∧Hid (∀s,o=some s→Few s)∧Mem w wr [(g7,tyS,smC (srO o) A c' B d),(w.heap.size+1,tyS,z5),(w.heap.size,tyR,pgC m p)] [(A,c',(srO o).xs),(B,d,(srO o).ys)])
 case atStart=>exact ⟨0,some 0,A0,c0,B0,d0,rfl,Nat.zero_le _,rfl,HR.out,HF0.out,(M.addR HB0.out).addR HA0.out⟩
 case round=>
  clear HR M HA0 HB0 HF0;obtain ⟨j,o,A,c',B,d,hk,hj,rfl,HL,HFO,M⟩:=hrel;obtain ⟨S,hS⟩:∃S,srO o=S:=⟨_,rfl⟩;rw[hS]at M;obtain ⟨n1,xs1,m1,ys1,big1⟩:=S;dsimp only at M;have HS:=Lib.hid hS;clear hS;obtain ⟨p0,p1',p2,p3,p4⟩:=(M.k (i:=2) rfl).fiveP;by_cases hlt:j<p.lo.length
  ·have dd1:decide ((j:Int)<(p.lo.length:Int))=true:=decide_eq_true (by omega);have hlth:j<p.hi.length:=by rw[HOK.out.hi];exact hlt
   obtain ⟨D,hD⟩:∃D,dcol p y c j=D:=⟨_,rfl⟩;have HFD:Hid (∀s,D=some s→Few s):=fun s e=>dcol_few (c:=c) s (hD.trans e);have HC:Hid (R=srO ((o.bind fun s=>D.bind fun x=>(mulO x ((endZ D (p.lo.getD j 0) (p.hi.getD j 0):Int):Rat)).bind fun m=>addO s m).bind fun t=>leastO p y c (j+1) t ((p.lo.zip p.hi).drop (j+1)))):=by
    show _=_;rw[HL.out,zip_drop hlt hlth,least_next,hD]
   have HD1:=Lib.hid (fun (w':World) (A:Option Addr) (c:Nat)=>HD.out w' A c j hlt);have HCL:=Lib.hid (fun (w':World) (q:Below w.heap.size w w')=>rcolumn_any (w:=w') (j:=j) (HP.out.below q) (fun i hi=>by rw[HOK.out.rows i hi];exact hlt) (by have:=HOK.out.a;omega));have HDC:Hid (D=(dotO 0 y (colL p j)).bind (addC c j)):=hD.symm;have HFE:Hid (∀s,dotO 0 y (colL p j)=some s→Few s):=fun s e=>dot_few _ _ few_zero e;generalize dotO 0 y (colL p j)=E at*;obtain ⟨SE,hSE⟩:∃S,srO E=S:=⟨_,rfl⟩;rw[hSE]at HD1;obtain ⟨nE,xE,mE,yE,bE⟩:=SE;have HSE:=Lib.hid hSE;clear HL hD hSE;go_wp2_with fail;refine (HCL.out _ M.bel).mono ?_;rintro e w4 ⟨AC,cC,rfl,hcol,q4⟩;replace M:=M.below q4;go_wp2_with fail;refine (HD1.out _ AC cC M.bel hcol).mono ?_;intro e w5 hr5;obtain ⟨⟨A5,c5,B5,d5,rfl,h5,k5⟩,q5⟩:=hr5.elim;clear hr5;replace M:=((M.below q5).addR k5).addR h5;have l5:=(M.k (i:=0) rfl).lt;replace M:=M.new tyS #[.bool nE,.slice A5 xE.length c5,.bool mE,.slice B5 yE.length d5,.bool bE];clear hcol q4 h5 k5 q5 p0 p1' p2 p3 p4 HD1 HCL;have hg9:w.heap.size+1<w5.heap.size:=by have:=(M.k (i:=2) rfl).lt;simp at this;omega
   go_upto_if 25 with fail;generalize w5.heap.size=g9 at*;have HM0:=Lib.hid M;go_cut [] (fun wx=>∃A9 c9 B9 d9,Mem w wx [(g9,tyS,smC (srO D) A9 c9 B9 d9),(g7,tyS,#[.bool n1,.slice A xs1.length c',.bool m1,.slice B ys1.length d,.bool big1]),(w.heap.size+1,tyS,z5),(w.heap.size,tyR,pgC m p)] [(A9,c9,(srO D).xs),(B9,d9,(srO D).ys),(A,c',xs1),(B,d,ys1)])
   case first=>
    cases b with
    |false=>
     have hDE:Hid (D=E):=by
      show D=E;rw[HDC.out,HCO.out];cases E<;>rfl
     go_wp2_with fail;go_meet;rw[hDE.out,HSE.out];exact ⟨A5,c5,B5,d5,HM0.out⟩
    |true=>
     obtain ⟨gc,oc,hA4,c4⟩:=(HP.out.c.below HM0.out.bel) j (by rw[HOK.out.c];exact hlt);replace c4:_=some (Value.int .i64 (p.c.getD j 0)):=c4;have hjc:j<p.c.length:=by rw[HOK.out.c];exact hlt
     have h64:=Lib.hid (HOK.out.ic j hlt);have HAD:Hid (plusR ⟨nE,xE,mE,yE,bE⟩ ⟨sN (p.c.getD j 0),sD (p.c.getD j 0),false,[1]⟩ 1=srO D):=by
      show _=_;rw[←HSE.out,←frq_int,plus_cost HFE.out h64.out.1 h64.out.2,HDC.out,HCO.out];rfl
     have HOZ:=Lib.hid (fun w=>rqof_any (p.c.getD j 0) w h64.out.1 h64.out.2);obtain ⟨y0,hy0⟩:∃y0:List Nat,[1]=y0:=⟨_,rfl⟩;rw[hy0]at HAD HOZ;generalize p.c.getD j 0=zc at*;generalize sN zc=zn at*;generalize sD zc=zx at*;have HM1:Hid (Mem w (w5.alloc (.cells #[.bool nE,.slice A5 xE.length c5,.bool mE,.slice B5 yE.length d5,.bool bE] tyS)) [(g9,tyS,#[.bool nE,.slice A5 xE.length c5,.bool mE,.slice B5 yE.length d5,.bool bE]),(g7,tyS,#[.bool n1,.slice A xs1.length c',.bool m1,.slice B ys1.length d,.bool big1]),(w.heap.size+1,tyS,z5),(w.heap.size,tyR,pgC m p)] [(A5,c5,xE),(B5,d5,yE),(A,c',xs1),(B,d,ys1)]):=HM0.out;have q0:=HM1.out.bel;have C4:=Lk.of c4;have P4:Hid (∀w',Mem w w' [(g9,tyS,#[.bool nE,.slice A5 xE.length c5,.bool mE,.slice B5 yE.length d5,.bool bE]),(g7,tyS,#[.bool n1,.slice A xs1.length c',.bool m1,.slice B ys1.length d,.bool big1]),(w.heap.size+1,tyS,z5),(w.heap.size,tyR,pgC m p)] [(A5,c5,xE),(B5,d5,yE),(A,c',xs1),(B,d,ys1)]→w'.cell? ⟨w.heap.size,4,none⟩=some (.slice (some ⟨gc,oc,none⟩) p.c.length m.c.2)):=fun w' M=>by
      rw[←hA4];exact (M.k (i:=3) rfl).fiveP.2.2.2.2
     clear hA4 c4 hy0 M HM0;generalize p.c.length=lc at*;generalize (w5.alloc (.cells #[.bool nE,.slice A5 xE.length c5,.bool mE,.slice B5 yE.length d5,.bool bE] tyS))=W7 at*;have HM2:=Lib.hid HM1.out.rebase;go_upto_region 7 with fail;refine region_gen0 (n:=9) (frame:= ?frame1) (fun L s w'=>(L 0=true→s 0= .agg #[.bool nE,.slice A5 xE.length c5,.bool mE,.slice B5 yE.length d5,.bool bE])∧(L 1=true→s 1= .pointer (some ⟨w.heap.size,4,none⟩))∧(L 2=true→s 2= .slice (some ⟨gc,oc,none⟩) lc m.c.2)∧(L 3=true→s 3= .int .i64 (j:Nat))∧(L 4=true→s 4= .pointer (some ⟨gc,oc+j,none⟩))∧(L 5=true→s 5= .int .i64 zc)∧(L 6=false→(Mem W7 w' [(g9,tyS,#[.bool nE,.slice A5 xE.length c5,.bool mE,.slice B5 yE.length d5,.bool bE]),(g7,tyS,#[.bool n1,.slice A xs1.length c',.bool m1,.slice B ys1.length d,.bool big1]),(w.heap.size+1,tyS,z5),(w.heap.size,tyR,pgC m p)] [(A5,c5,xE),(B5,d5,yE),(A,c',xs1),(B,d,ys1)]))∧(L 6=true→L 7=false→(Mem W7 w' [(g9,tyS,#[.bool nE,.slice A5 xE.length c5,.bool mE,.slice B5 yE.length d5,.bool bE]),(g7,tyS,#[.bool n1,.slice A xs1.length c',.bool m1,.slice B ys1.length d,.bool big1]),(w.heap.size+1,tyS,z5),(w.heap.size,tyR,pgC m p)] [(A5,c5,xE),(B5,d5,yE),(A,c',xs1),(B,d,ys1)]∧∃A9 c9 B9 d9,s 6=rv zn A9 zx.length c9 false B9 y0.length d9∧Rd w' A9 c9 zx∧Rd w' B9 d9 y0))∧(L 7=true→L 8=false→(∃A9 c9 B9 d9,s 7= .agg (smC (srO D) A9 c9 B9 d9)∧Mem W7 w' [(g9,tyS,#[.bool nE,.slice A5 xE.length c5,.bool mE,.slice B5 yE.length d5,.bool bE]),(g7,tyS,#[.bool n1,.slice A xs1.length c',.bool m1,.slice B ys1.length d,.bool big1]),(w.heap.size+1,tyS,z5),(w.heap.size,tyR,pgC m p)] [(A9,c9,(srO D).xs),(B9,d9,(srO D).ys),(A5,c5,xE),(B5,d5,yE),(A,c',xs1),(B,d,ys1)]))∧(L 8=true→(∃A9 c9 B9 d9,Mem w w' [(g9,tyS,smC (srO D) A9 c9 B9 d9),(g7,tyS,#[.bool n1,.slice A xs1.length c',.bool m1,.slice B ys1.length d,.bool big1]),(w.heap.size+1,tyS,z5),(w.heap.size,tyR,pgC m p)] [(A9,c9,(srO D).xs),(B9,d9,(srO D).ys),(A,c',xs1),(B,d,ys1)]))) (by kernel_rfl) (by kernel_rfl) (by kernel_rfl) rfl ?_ ?_ ?_ ?_
     case refine_1=>exact ⟨fun h=>no_f h,fun h=>no_f h,fun h=>no_f h,fun h=>no_f h,fun h=>no_f h,fun h=>no_f h,fun _=>HM2.out.drew,fun h=>no_f h,fun h=>no_f h,fun h=>no_f h⟩
     case refine_2=>
      intro s;simp only[fr,Act.put,List.append_eq,List.cons_append,List.nil_append,List.setIfInBounds_toArray,List.set_cons_zero,List.set_cons_succ,Nat.reduceAdd];rfl
     case refine_3=>
      refine SC 0 1 rfl ?_ (SC 1 2 rfl ?_ (SC 2 3 rfl ?_ (SC 3 4 rfl ?_ (SC 4 5 rfl ?_ (SC 5 6 rfl ?_ (SC 6 7 rfl ?_ (SC 7 8 rfl ?_ (SC 8 9 rfl ?_ Steps.nil))))))));all_goals (intro L s w9 hN hU hi hC hS K hK;dsimp only at hK⊢;simp only[Act.put,List.setIfInBounds_toArray,List.set_cons_zero,List.set_cons_succ]at hK;obtain ⟨h_0,h_1,h_2,h_3,h_4,h_5,c_0,c_1,c_2,c_3⟩:=hS;refine ite_of rfl ?_)
      ·have hE:Mem W7 w9 [(g9,tyS,#[.bool nE,.slice A5 xE.length c5,.bool mE,.slice B5 yE.length d5,.bool bE]),(g7,tyS,#[.bool n1,.slice A xs1.length c',.bool m1,.slice B ys1.length d,.bool big1]),(w.heap.size+1,tyS,z5),(w.heap.size,tyR,pgC m p)] [(A5,c5,xE),(B5,d5,yE),(A,c',xs1),(B,d,ys1)]:=(match hL0:L 6 with|false=>(c_0 hL0)|true=>(c_1 hL0 (hU.out 7 _ rfl rfl)).1);obtain ⟨u0,u1,u2,u3,u4⟩:=(hE.k (i:=0) rfl).fiveP;go_simp;refine hK.out _ _ ?_;exact ⟨fun _=>rfl,h_1,h_2,h_3,h_4,h_5,c_0,c_1,c_2,c_3⟩
      ·go_simp;refine hK.out _ _ ?_;exact ⟨h_0,fun _=>rfl,h_2,h_3,h_4,h_5,c_0,c_1,c_2,c_3⟩
      ·have e_1:=h_1 (hN.out 1 rfl);simp only[e_1]at hK⊢;have hE:Mem W7 w9 [(g9,tyS,#[.bool nE,.slice A5 xE.length c5,.bool mE,.slice B5 yE.length d5,.bool bE]),(g7,tyS,#[.bool n1,.slice A xs1.length c',.bool m1,.slice B ys1.length d,.bool big1]),(w.heap.size+1,tyS,z5),(w.heap.size,tyR,pgC m p)] [(A5,c5,xE),(B5,d5,yE),(A,c',xs1),(B,d,ys1)]:=(c_0 (Shut.no hC 6 5 rfl rfl (Shut.no hC 5 4 rfl rfl (hU.out 4 _ rfl rfl))));have u0:=P4.out _ (Mem.on hE q0);go_simp;refine hK.out _ _ ?_;exact ⟨h_0,h_1,fun _=>rfl,h_3,h_4,h_5,c_0,c_1,c_2,c_3⟩
      ·go_simp;refine hK.out _ _ ?_;exact ⟨h_0,h_1,h_2,fun _=>rfl,h_4,h_5,c_0,c_1,c_2,c_3⟩
      ·have e_2:=h_2 (hN.out 2 rfl);simp only[e_2]at hK⊢;have e_3:=h_3 (hN.out 3 rfl);simp only[e_3]at hK⊢;go_simp;refine hK.out _ _ ?_;exact ⟨h_0,h_1,h_2,h_3,fun _=>rfl,h_5,c_0,c_1,c_2,c_3⟩
      ·have e_4:=h_4 (hN.out 4 rfl);simp only[e_4]at hK⊢;have hE:Mem W7 w9 [(g9,tyS,#[.bool nE,.slice A5 xE.length c5,.bool mE,.slice B5 yE.length d5,.bool bE]),(g7,tyS,#[.bool n1,.slice A xs1.length c',.bool m1,.slice B ys1.length d,.bool big1]),(w.heap.size+1,tyS,z5),(w.heap.size,tyR,pgC m p)] [(A5,c5,xE),(B5,d5,yE),(A,c',xs1),(B,d,ys1)]:=(c_0 (hU.out 6 _ rfl rfl));have u0:=C4 _ hE.bel;go_simp;refine hK.out _ _ ?_;exact ⟨h_0,h_1,h_2,h_3,h_4,fun _=>rfl,c_0,c_1,c_2,c_3⟩
      ·have e_5:=h_5 (hN.out 5 rfl);simp only[e_5]at hK⊢;have hP:=c_0 hi.out;go_simp;go_at_call 68;refine (HOZ.out _).mono ?_;rintro e9 w10 ⟨⟨A9,c9,B9,d9,rfl,h9,k9⟩,q⟩;exact hK.out _ _ ⟨h_0,h_1,h_2,h_3,h_4,h_5,fun h=>no_t h,fun _ _=>⟨hP.below q,A9,c9,B9,d9,rfl,h9,k9⟩,fun h=>no_f (Eq.trans (Eq.symm (hU.out 7 _ rfl rfl)) h),fun h=>no_f (Eq.trans (Eq.symm (Shut.no hC 8 7 rfl rfl (hU.out 7 _ rfl rfl))) h)⟩
      ·have e_0:=h_0 (hN.out 0 rfl);simp only[e_0]at hK⊢;have hP:=c_1 (hN.out 6 rfl) hi.out;obtain ⟨hP0,A9,c9,B9,d9,e6,h9,k9⟩:=hP;simp only[e6]at hK⊢;go_simp;go_at_call 70;have hh:=rplus_any (s:=⟨nE,xE,mE,yE,bE⟩) (x:=⟨zn,zx,false,y0⟩) (z:=1) (by decide) (by decide) (hP0.r (i:=0) rfl) (hP0.r (i:=1) rfl) h9 k9;rw[HAD.out]at hh;refine hh.mono ?_;rintro e9 w10 ⟨⟨A8,c8,B8,d8,rfl,h8,k8⟩,q⟩;exact hK.out _ _ ⟨h_0,h_1,h_2,h_3,h_4,h_5,fun h=>no_f (Eq.trans (Eq.symm h) (hN.out 6 rfl)),fun _ h=>no_t h,fun _ _=>⟨A8,c8,B8,d8,rfl,((hP0.below q).addR k8).addR h8⟩,fun h=>no_f (Eq.trans (Eq.symm (hU.out 8 _ rfl rfl)) h)⟩
      ·have hP:=c_2 (hN.out 7 rfl) hi.out;obtain ⟨A9,c9,B9,d9,e7,hM0⟩:=hP;have hM:=Mem.on hM0 q0;simp only[e7]at hK⊢;have b9:=hM.k (i:=0) rfl;refine wp_store_row _ _ _ rfl g9 _ rfl rfl _ _ b9 info_sum rfl (by rw[←Array.all_toList];rfl) ?_;exact hK.out undef _ ⟨h_0,h_1,h_2,h_3,h_4,h_5,fun h=>no_f (Eq.trans (Eq.symm h) (hC.out 7 _ rfl (hN.out 7 rfl) 6 rfl)),fun _ h=>no_f (Eq.trans (Eq.symm h) (hN.out 7 rfl)),fun _ h=>no_t h,fun _=>⟨A9,c9,B9,d9,(hM.row (by omega) (by simp;omega) rfl (b9.row _) (setRow_grown _ _ _)).sub (fun k hk=>hk) (by simp)⟩⟩
     intro L s w9 hall hS;obtain ⟨h_0,h_1,h_2,h_3,h_4,h_5,c_0,c_1,c_2,c_3⟩:=hS;have hPm:=c_3 (hall 8 (by decide));clear hall h_0 h_1 h_2 h_3 h_4 h_5 c_0 c_1 c_2 c_3;have HPM:=Lib.hid hPm;clear hPm;go_wp2_with fail;go_meet;exact HPM.out
   case rest=>
    obtain ⟨A9,c9,B9,d9,M⟩:=hcut;clear HM0 HDC HSE HFE HCO;obtain ⟨SD,hSD⟩:∃S,srO D=S:=⟨_,rfl⟩;rw[hSD]at M;obtain ⟨nD,xD,mD,yD,bD⟩:=SD;dsimp only[smC]at M;have HSD:=Lib.hid hSD;clear hSD;obtain ⟨zz,hzz⟩:∃zz:Int,(if nD=true then p.hi.getD j 0 else p.lo.getD j 0)=zz:=⟨_,rfl⟩;have HZ:=Lib.hid hzz;have HZE:Hid (endZ D (p.lo.getD j 0) (p.hi.getD j 0)=zz):=by
     show _=_;unfold endZ;rw[HSD.out];exact hzz
    have HZ64:Hid (-9223372036854775808≤zz∧zz≤9223372036854775807):=by
     show _∧_;rw[←hzz];split
     ·exact HOK.out.ihi j hlt
     ·exact HOK.out.ilo j hlt
    rw[HZE.out]at HC;clear HZE hzz;obtain ⟨gl,ol,hA0,k0⟩:=(HP.out.lo.below M.bel) j hlt;replace k0:wc.cell? ⟨gl,ol+j,none⟩=some (.int .i64 (p.lo.getD j 0)):=k0;obtain ⟨gh,oh,hA1,k1⟩:=(HP.out.hi.below M.bel) j hlth;replace k1:wc.cell? ⟨gh,oh+j,none⟩=some (.int .i64 (p.hi.getD j 0)):=k1;obtain ⟨p0,p1',p2,p3,p4⟩:=(M.k (i:=3) rfl).fiveP;rw[hA0]at p0;rw[hA1]at p1';obtain ⟨v1,v2,v3,v4,v5⟩:=(M.k (i:=0) rfl).fiveP;have K1:=Lk.of k1;have P1:=Lk.of p1';clear hA0 hA1 k1 p1' p2 p3 p4;generalize p.lo.getD j 0=zl at*;generalize p.hi.getD j 0=zh at*;go_wp2_with fail;refine (rbelow_any (n:=nD) (m:=mD)).mono ?_;rintro e w8 ⟨rfl,q8⟩;replace M:=M.below q8;have k1:=K1 _ q8;have p1':=P1 _ q8;clear K1 P1 k0 p0 v1 v2 v3 v4 v5 q8;go_upto_if 41 with fail;go_cut [10] (fun s10 wx=>s10= .int .i64 zz∧wx=w8)
    case first=>
     cases nD with
     |true=>
      go_wp2_with fail;go_meet;exact ⟨by rw[←HZ.out];rfl,rfl⟩
     |false=>
      go_wp2_with fail;go_meet;exact ⟨by rw[←HZ.out];rfl,rfl⟩
    case rest=>
     obtain ⟨rfl,rfl⟩:=hcut;obtain ⟨N,hN⟩:∃N,(o.bind fun s=>D.bind fun x=>(mulO x (zz:Rat)).bind fun m=>addO s m)=N:=⟨_,rfl⟩;obtain ⟨S2,hS2⟩:∃S2,plusR ⟨n1,xs1,m1,ys1,big1⟩ ⟨nD,xD,mD,yD⟩ zz=S2:=⟨_,rfl⟩;rw[hN]at HC;have HN:Hid (S2=srO N):=by
      show _=_;rw[←hS2,←hN,←HS.out,←plus_srO HFO.out HFD.out HZ64.out.1 HZ64.out.2,HSD.out];rfl
     have HFN:Hid (∀s,N=some s→Few s):=fun s e=>bind_few (fun s q h=>bind_few (fun x q h=>bind_few (fun m q h=>addO_few h) q h) q h) s (hN.trans e);have HBD:Hid (S2.big=false→bD=false):=fun e=>by
      rw[HN.out,srO_big_iff]at e;have e2:bD=(srO D).big:=by rw[HSD.out]
      rw[e2,srO_big_iff];cases D with
      |some x=>rfl
      |none=>
       rw[←hN]at e;cases o<;>cases e
     have HS2:=Lib.hid hS2;obtain ⟨n2,xs2,m2,ys2,b2⟩:=S2;clear hS2 hN HS HSD HFO HFD HZ;obtain ⟨v1,v2,v3,v4,v5⟩:=(M.k (i:=1) rfl).fiveP;obtain ⟨x1,x2,x3,x4,x5⟩:=(M.k (i:=0) rfl).fiveP;go_wp2_with fail;have hh:=rplus_any (s:=⟨n1,xs1,m1,ys1,big1⟩) (x:=⟨nD,xD,mD,yD⟩) HZ64.out.1 HZ64.out.2 (M.r (i:=2) rfl) (M.r (i:=3) rfl) (M.r (i:=0) rfl) (M.r (i:=1) rfl);rw[HS2.out]at hh;refine hh.mono ?_;intro e w6 hr6;obtain ⟨⟨A6,c6,B6,d6,rfl,h6,k6⟩,q6⟩:=hr6.elim;replace M:=((M.below q6).addR k6).addR h6;clear hr6 hh h6 k6 q6 v1 v2 v3 v4 v5 x1 x2 x3 x4 x5 HS2 HZ64;cases b2 with
     |true=>
      go_wp2_with ((with_reducible refine st_ ?_);refine wp_put2 _ _ (M.k (i:=1) rfl) rfl rfl rfl rfl info_sum rfl rfl ?_;intro w4 b4 g4;replace M:=M.rowAt (i:=1) rfl (by omega) (by simp<;>omega) rfl b4 g4;obtain ⟨f1,f2,f3,f4,f5⟩:=(M.k (i:=1) rfl).fiveP;have fz:=(M.k (i:=1) rfl).frozen 4;obtain ⟨_,_,_,_,y5⟩:=(M.k (i:=0) rfl).fiveP);have M9:=M.rowAt (i:=1) rfl (by omega) (by simp<;>omega) rfl ((M.k (i:=1) rfl).set_ 4 (.bool true)) (grown_setCell _ _ _ _);have HM9:=Lib.hid M9;clear M9 M y5 f1 f2 f3 f4 f5 fz b4 g4;have hn64:p.lo.length≤64:=HOK.out.n;go_roundg (p.lo.length-(j+1))
      case measure=>omega
      case rel=>exact ⟨j+1,N,A6,c6,B6,d6,rfl,by omega,by rw[IntWalk.wrap64_in _ ⟨by omega,by omega⟩];rfl,HC.out,HFN.out,by rw[←HN.out];exact HM9.out.sub (by simp) (by simp)⟩
     |false=>
      have hbd:bD=false:=HBD.out rfl;subst hbd;go_wp2_with ((with_reducible refine st_ ?_);refine wp_put2 _ _ (M.k (i:=1) rfl) rfl rfl rfl rfl info_sum rfl rfl ?_;intro w4 b4 g4;replace M:=M.rowAt (i:=1) rfl (by omega) (by simp<;>omega) rfl b4 g4;obtain ⟨f1,f2,f3,f4,f5⟩:=(M.k (i:=1) rfl).fiveP;have fz:=(M.k (i:=1) rfl).frozen 4;obtain ⟨_,_,_,_,y5⟩:=(M.k (i:=0) rfl).fiveP);have M9:=M.rowAt (i:=1) rfl (by omega) (by simp<;>omega) rfl ((M.k (i:=1) rfl).set_ 4 (.bool false)) (grown_setCell _ _ _ _);have HM9:=Lib.hid M9;clear M9 M y5 f1 f2 f3 f4 f5 fz b4 g4;have hn64:p.lo.length≤64:=HOK.out.n;go_roundg (p.lo.length-(j+1))
      case measure=>omega
      case rel=>exact ⟨j+1,N,A6,c6,B6,d6,rfl,by omega,by rw[IntWalk.wrap64_in _ ⟨by omega,by omega⟩];rfl,HC.out,HFN.out,by rw[←HN.out];exact HM9.out.sub (by simp) (by simp)⟩
  ·have dd1:decide ((j:Int)<(p.lo.length:Int))=false:=decide_eq_false (by omega);have HR2:Hid ((⟨n1,xs1,m1,ys1,big1⟩:Sr)=R):=by
    show _=_;have e:(p.lo.zip p.hi).drop j=[]:=List.drop_eq_nil_of_le (by rw[List.length_zip];omega);rw[HL.out,←HS.out,e];cases o<;>rfl
   clear HL;obtain ⟨v1,v2,v3,v4,v5⟩:=(M.k (i:=0) rfl).fiveP;go_wp2_with ((with_reducible refine st_ ?_);refine wp_put2 _ _ (M.k (i:=1) rfl) rfl rfl rfl rfl info_sum rfl rfl ?_;intro w4 b4 g4;replace M:=M.rowAt (i:=1) rfl (by omega) (by simp<;>omega) rfl b4 g4;obtain ⟨f1,f2,f3,f4,f5⟩:=(M.k (i:=1) rfl).fiveP);refine bodyPost_ret (v:= .agg #[.bool n1,.slice A xs1.length c',.bool m1,.slice B ys1.length d,.bool big1]) (by simp[results,Tryz.results49,go_sem,f1,f2,f3,f4,f5]) rfl ⟨?_,M.bel⟩;rw[←HR2.out];exact ⟨A,c',B,d,rfl,M.r (i:=0) rfl,M.r (i:=1) rfl⟩
end Go.Proofs.YtpnmcacndjkfaaaGreat
set_option maxHeartbeats 8000000
set_option maxRecDepth 100000
set_option linter.unusedSimpArgs false
set_option linter.unusedVariables false
namespace Go.Proofs.YtpnmcacndjkfaaaGreat
open Go.RowKit Num
def rowsB (n:Nat):List (List Int)→List Int→Bool
 |r::a,z::b=>(decide (r.length=n)&&(nearL 1048576 r&&(decide (-1099511627776≤z)&&decide (z≤1099511627776))))&&rowsB n a b
 |_,_=>true
theorem rowsB_eq (n:Nat):∀(a:List (List Int)) (b:List Int),a.length=b.length→(nearL 1099511627776 b&&rightA n a)=rowsB n a b
 |[],[],_=>rfl
 |[],_::_,h=>by cases h
 |_::_,[],h=>by cases h
 |r::a,z::b,h=>by
  rw[nearL_step,rightA_step];show _=((decide (r.length=n)&&(nearL 1048576 r&&(decide (-1099511627776≤z)&&decide (z≤1099511627776))))&&rowsB n a b);rw[←rowsB_eq n a b (by simpa using h)];generalize decide (r.length=n)=b1;generalize nearL 1048576 r=b2;generalize (decide (-1099511627776≤z)&&decide (z≤1099511627776))=b3;generalize nearL 1099511627776 b=b4;generalize rightA n a=b5;cases b1<;>cases b2<;>cases b3<;>cases b4<;>cases b5<;>rfl
theorem rowsB_step (n:Nat) (r:List Int) (a:List (List Int)) (z:Int) (b:List Int):rowsB n (r::a) (z::b)=((decide (r.length=n)&&(nearL 1048576 r&&(decide (-1099511627776≤z)&&decide (z≤1099511627776))))&&rowsB n a b):=rfl
theorem rrightPg_eq (p:Pg) (h:p.a.length=p.b.length):rightPg p=(decide (p.lo.length≤64)&&(decide (p.hi.length=p.lo.length)&&(decide (p.c.length=p.lo.length)&&(decide (p.a.length≤160)&&(nearL 1048576 p.lo&&(nearL 1048576 p.hi&&(nearL 1048576 p.c&&(endsL p.lo p.hi&&rowsB p.lo.length p.a p.b)))))))):=by
 rw[rightPg_eq,decide_eq_true h,←rowsB_eq p.lo.length p.a p.b h];generalize decide (p.lo.length≤64)=b1;generalize decide (p.hi.length=p.lo.length)=b2;generalize decide (p.c.length=p.lo.length)=b3;generalize decide (p.a.length≤160)=b4;generalize nearL 1048576 p.lo=b5;generalize nearL 1048576 p.hi=b6;generalize nearL 1048576 p.c=b7;generalize nearL 1099511627776 p.b=b8;generalize endsL p.lo p.hi=b9;generalize rightA p.lo.length p.a=b0;cases b1<;>cases b2<;>cases b3<;>cases b4<;>cases b5<;>cases b6<;>cases b7<;>first|rfl|(cases b8<;>cases b9<;>cases b0<;>rfl)
theorem rpright_any {w:World} {m:Pa} {p:Pg} (hp:PgAt w m p) (hz:PgSz p):Calls Tryz.prog 13 #[.agg (pgC m p)] w fun e w'=>e= .returned (.bool (rightPg p))∧Below w.heap.size w w':=by
 have HP:=Lib.hid hp;have HZ:=Lib.hid hz;have HE0:=Lib.hid (rightPg_eq p);have HE:=Lib.hid (rrightPg_eq p);obtain ⟨R,hR⟩:∃R,rightPg p=R:=⟨_,rfl⟩;rw[hR]at HE HE0⊢;have hb0:=Blk.new w tyR (pgC m p);have HB0:=Lib.hid hb0;have HQ0:=Lib.hid (below_alloc1 w (.cells (pgC m p) tyR));obtain ⟨p0,p1,p2,p3,p4⟩:=hb0.fiveP;clear hR hp hz hb0;go_enter Tryz.func13,Tryz.ntmps13;have zlo:=HZ.out.lo;have zhi:=HZ.out.hi;have zc:=HZ.out.c;have zb:=HZ.out.b;have za:=HZ.out.a;by_cases g1:p.lo.length≤64
 ·have d1:decide ((64:Int)<(p.lo.length:Int))=false:=decide_eq_false (by omega);by_cases g2:p.hi.length=p.lo.length
  ·have d2:((p.hi.length:Int) !=(p.lo.length:Int))=false:=by rw[g2];simp
   by_cases g3:p.c.length=p.lo.length
   ·have d3:((p.c.length:Int) !=(p.lo.length:Int))=false:=by rw[g3];simp
    by_cases g4:p.a.length=p.b.length
    ·have d4:((p.a.length:Int) !=(p.b.length:Int))=false:=by rw[g4];simp
     have HE:=Lib.hid (HE.out g4);have hab:p.a.length≤p.b.length:=by omega
     have HE:=Lib.hid (HE.out.trans (by rw[decide_eq_true g1,Bool.true_and,decide_eq_true g2,Bool.true_and,decide_eq_true g3,Bool.true_and]));have hh1:p.hi.length≤p.lo.length:=by omega
     have hh2:p.lo.length≤p.hi.length:=by omega
     clear g2 g3 g4 HE0;by_cases g5:p.a.length≤160
     ·have d5:decide ((160:Int)<(p.a.length:Int))=false:=decide_eq_false (by omega);have HE:=Lib.hid (HE.out.trans (by rw[decide_eq_true g5,Bool.true_and]));have hq1:=HQ0;have hb1:=Lib.hid (HB0.out:Blk _ w.heap.size tyR (pgC m p));have ha160:p.a.length≤160:=g5;clear g5;obtain ⟨N1,hN1⟩:∃N1,nearL 1048576 p.lo=N1:=⟨_,rfl⟩;obtain ⟨N2,hN2⟩:∃N2,nearL 1048576 p.hi=N2:=⟨_,rfl⟩;obtain ⟨N3,hN3⟩:∃N3,nearL 1048576 p.c=N3:=⟨_,rfl⟩;have C1:Hid (∀w',Below w.heap.size w w'→Calls Tryz.prog 33 #[.slice m.lo.1 p.lo.length m.lo.2] w' fun e w2=>e= .returned (.bool N1)∧Below w'.heap.size w' w2):=fun w' q=>by rw[←hN1];exact rwithin_any (HP.out.lo.below q) zlo
      have C2:Hid (∀w',Below w.heap.size w w'→Calls Tryz.prog 33 #[.slice m.hi.1 p.hi.length m.hi.2] w' fun e w2=>e= .returned (.bool N2)∧Below w'.heap.size w' w2):=fun w' q=>by rw[←hN2];exact rwithin_any (HP.out.hi.below q) zhi
      have C3:Hid (∀w',Below w.heap.size w w'→Calls Tryz.prog 33 #[.slice m.c.1 p.c.length m.c.2] w' fun e w2=>e= .returned (.bool N3)∧Below w'.heap.size w' w2):=fun w' q=>by rw[←hN3];exact rwithin_any (HP.out.c.below q) zc
      rw[hN1,hN2,hN3]at HE;clear hN1 hN2 hN3;go_wp2_with fail;refine (C1.out _ hq1.out).mono ?_;rintro e w1 ⟨rfl,q⟩;have hq1:=Lib.hid (below_trans hq1.out q);have hb1:=Lib.hid (hb1.out.below q (Nat.le_refl _));obtain ⟨p0,p1,p2,p3,p4⟩:=hb1.out.fiveP;clear q;cases N1 with
      |false=>
       have HC:Hid (R=false):=HE.out;go_wp2_with fail;exact bodyPost_ret (v:= .bool false) (by simp[results,Tryz.results13,go_sem]) rfl ⟨by rw[HC.out],hq1.out⟩
      |true=>
       go_wp2_with fail;refine (C2.out _ hq1.out).mono ?_;rintro e w1 ⟨rfl,q⟩;have hq1:=Lib.hid (below_trans hq1.out q);have hb1:=Lib.hid (hb1.out.below q (Nat.le_refl _));obtain ⟨p0,p1,p2,p3,p4⟩:=hb1.out.fiveP;clear q;cases N2 with
       |false=>
        have HC:Hid (R=false):=HE.out;go_wp2_with fail;exact bodyPost_ret (v:= .bool false) (by simp[results,Tryz.results13,go_sem]) rfl ⟨by rw[HC.out],hq1.out⟩
       |true=>
        go_wp2_with fail;refine (C3.out _ hq1.out).mono ?_;rintro e w1 ⟨rfl,q⟩;have hq1:=Lib.hid (below_trans hq1.out q);have hb1:=Lib.hid (hb1.out.below q (Nat.le_refl _));obtain ⟨p0,p1,p2,p3,p4⟩:=hb1.out.fiveP;clear q;cases N3 with
        |false=>
         have HC:Hid (R=false):=HE.out;go_wp2_with fail;exact bodyPost_ret (v:= .bool false) (by simp[results,Tryz.results13,go_sem]) rfl ⟨by rw[HC.out],hq1.out⟩
        |true=>
         have HE0:Hid (R=(endsL (p.lo.drop 0) (p.hi.drop 0)&&rowsB p.lo.length p.a p.b)):=HE.out;clear HE C1 C2 C3;go_wp2_with fail;go_loopg [4] p.lo.length (fun k pp wr=>∃j,k=p.lo.length-j∧j≤p.lo.length∧pp= .int .i64 (j:Nat)∧Hid (R=(endsL (p.lo.drop j) (p.hi.drop j)&&rowsB p.lo.length p.a p.b))∧Hid (Below w.heap.size w wr)∧Blk wr w.heap.size tyR (pgC m p))
         case atStart=>exact ⟨0,rfl,Nat.zero_le _,rfl,HE0.out,hq1.out,hb1.out⟩
         case round=>
          clear HE0 hq1 hb1 p0 p1 p2 p3 p4;obtain ⟨j,hk,hj,rfl,HL,hq1,hpb⟩:=hrel;have HPB:=Lib.hid hpb;obtain ⟨p0,p1,p2,p3,p4⟩:=hpb.fiveP;by_cases hlt:j<p.lo.length
          ·have d1:decide ((j:Int)<(p.lo.length:Int))=true:=decide_eq_true (by omega);have hlt2:j<p.hi.length:=by omega
           obtain ⟨gl,ol,hA0,c0⟩:=(HP.out.lo.below hq1.out) j hlt;obtain ⟨gh,oh,hA1,c1⟩:=(HP.out.hi.below hq1.out) j hlt2;replace c0:wr.cell? ⟨gl,ol+j,none⟩=some (.int .i64 (p.lo.getD j 0)):=c0;replace c1:wr.cell? ⟨gh,oh+j,none⟩=some (.int .i64 (p.hi.getD j 0)):=c1;rw[hA0]at p0;rw[hA1]at p1;have P0:=Lk.of p0;have P1:=Lk.of p1;have C0:=Lk.of c0;have C1:=Lk.of c1;have HC:Hid (R=((decide (p.lo.getD j 0≤p.hi.getD j 0)&&endsL (p.lo.drop (j+1)) (p.hi.drop (j+1)))&&rowsB p.lo.length p.a p.b)):=by
            show _=_;rw[HL.out,drop_at (z:=0) hlt,drop_at (z:=0) hlt2,endsL_step]
           clear hA0 hA1 p0 p1 p2 p3 p4 c0 c1 hpb HL;generalize p.lo.getD j 0=zl at*;generalize p.hi.getD j 0=zh at*;have M:=Mem.start wr;go_upto_region 7 with fail;refine region_st (n:=11) (frame:= ?frame1) (fun jK=>[.val (.fix (.pointer (some ⟨w.heap.size,0,none⟩))),.val (.fix (.slice (some ⟨gl,ol,none⟩) p.lo.length m.lo.2)),.val (.fix (.int .i64 (j:Nat))),.val (.fix (.pointer (some ⟨gl,ol+j,none⟩))),.val (.fix (.int .i64 zl)),.val (.fix (.pointer (some ⟨w.heap.size,1,none⟩))),.val (.fix (.slice (some ⟨gh,oh,none⟩) p.hi.length m.hi.2)),.val (.fix (.int .i64 (j:Nat))),.val (.fix (.pointer (some ⟨gh,oh+j,none⟩))),.val (.fix (.int .i64 zh)),.val (.fix (.bool (decide (zh<zl))))].getD jK .none) [] (by kernel_rfl) (by kernel_rfl) (by kernel_rfl) rfl M (fun _ h=>by cases h) (fun _ h=>by cases h) ?_ ?_ ?_
           case refine_1=>
            intro s;simp only[fr,Act.put,List.append_eq,List.cons_append,List.nil_append,List.setIfInBounds_toArray,List.set_cons_zero,List.set_cons_succ,Nat.reduceAdd];rfl
           case refine_2=>
            refine SC 0 1 rfl ?_ (SC 1 2 rfl ?_ (SC 2 3 rfl ?_ (SC 3 4 rfl ?_ (SC 4 5 rfl ?_ (SC 5 6 rfl ?_ (SC 6 7 rfl ?_ (SC 7 8 rfl ?_ (SC 8 9 rfl ?_ (SC 9 10 rfl ?_ (SC 10 11 rfl ?_ Steps.nil))))))))));all_goals (intro L s w9 hN hU hi hS K hK;dsimp only at hK⊢;simp only[Act.put,List.setIfInBounds_toArray,List.set_cons_zero,List.set_cons_succ]at hK)
            ·go_simp;exact hK.out _ _ (hS.v0 rfl rfl rfl)
            ·have e0:=hS.fx 0 rfl rfl (hN.out 0 rfl);simp only[e0]at hK⊢;have u0:=P0 _ hS.mem.bel;go_simp;exact hK.out _ _ (hS.v0 rfl rfl rfl)
            ·go_simp;exact hK.out _ _ (hS.v0 rfl rfl rfl)
            ·have e1:=hS.fx 1 rfl rfl (hN.out 1 rfl);simp only[e1]at hK⊢;have e2:=hS.fx 2 rfl rfl (hN.out 2 rfl);simp only[e2]at hK⊢;go_simp;exact hK.out _ _ (hS.v0 rfl rfl rfl)
            ·have e3:=hS.fx 3 rfl rfl (hN.out 3 rfl);simp only[e3]at hK⊢;have u0:=C0 _ hS.mem.bel;go_simp;exact hK.out _ _ (hS.v0 rfl rfl rfl)
            ·go_simp;exact hK.out _ _ (hS.v0 rfl rfl rfl)
            ·have e5:=hS.fx 5 rfl rfl (hN.out 5 rfl);simp only[e5]at hK⊢;have u0:=P1 _ hS.mem.bel;go_simp;exact hK.out _ _ (hS.v0 rfl rfl rfl)
            ·go_simp;exact hK.out _ _ (hS.v0 rfl rfl rfl)
            ·have e6:=hS.fx 6 rfl rfl (hN.out 6 rfl);simp only[e6]at hK⊢;have e7:=hS.fx 7 rfl rfl (hN.out 7 rfl);simp only[e7]at hK⊢;go_simp;exact hK.out _ _ (hS.v0 rfl rfl rfl)
            ·have e8:=hS.fx 8 rfl rfl (hN.out 8 rfl);simp only[e8]at hK⊢;have u0:=C1 _ hS.mem.bel;go_simp;exact hK.out _ _ (hS.v0 rfl rfl rfl)
            ·have e4:=hS.fx 4 rfl rfl (hN.out 4 rfl);simp only[e4]at hK⊢;have e9:=hS.fx 9 rfl rfl (hN.out 9 rfl);simp only[e9]at hK⊢;go_simp;exact hK.out _ _ (hS.v0 rfl rfl rfl)
           intro L s w9 hall hS;have e10:=hS.fx 10 rfl rfl (hall 10 (by decide));have q3:=hS.mem.bel;simp only[e10];have HQ3:=Lib.hid (below_trans hq1.out q3);have HB3:=Lib.hid (HPB.out.below q3 (Nat.le_refl _));clear hS hall e10 q3 P0 P1 C0 C1;by_cases hzz:zh<zl
           ·have HC2:Hid (R=false):=HC.out.trans (by rw[decide_eq_false (show ¬zl≤zh by omega)];rfl);rw[decide_eq_true hzz];clear HC;go_wp2_with fail;exact bodyPost_ret (v:= .bool false) (by simp[results,Tryz.results13,go_sem]) rfl ⟨by rw[HC2.out],HQ3.out⟩
           ·have HC2:Hid (R=(endsL (p.lo.drop (j+1)) (p.hi.drop (j+1))&&rowsB p.lo.length p.a p.b)):=HC.out.trans (by rw[decide_eq_true (show zl≤zh by omega),Bool.true_and]);rw[decide_eq_false hzz];clear HC;go_wp2_with fail;go_roundg (p.lo.length-(j+1))
            case measure=>omega
            case rel=>exact ⟨j+1,rfl,by omega,by simp,HC2.out,HQ3.out,HB3.out⟩
          ·have d1:decide ((j:Int)<(p.lo.length:Int))=false:=decide_eq_false (by omega);have HE1:Hid (R=rowsB p.lo.length (p.a.drop 0) (p.b.drop 0)):=by
            show _=_;rw[HL.out,drop_none hlt];rfl
           clear HL;obtain ⟨W0,rfl⟩:∃W0,W0=wr:=⟨_,rfl⟩;go_wp2_with fail;go_loopg [5] p.a.length (fun k pp wr=>∃i,k=p.a.length-i∧i≤p.a.length∧pp= .int .i64 (i:Nat)∧Hid (R=rowsB p.lo.length (p.a.drop i) (p.b.drop i))∧Hid (Below w.heap.size w wr)∧Blk wr w.heap.size tyR (pgC m p))
           case atStart=>exact ⟨0,rfl,Nat.zero_le _,rfl,HE1.out,hq1.out,HPB.out⟩
           case round=>
            clear HE1 p0 p1 p2 p3 p4 d1 hlt hpb;obtain ⟨i,hk2,hi,rfl,HL,hq2,hpb⟩:=hrel;have HPB2:=Lib.hid hpb;obtain ⟨p0,p1,p2,p3,p4⟩:=hpb.fiveP;by_cases hlt:i<p.a.length
            ·have d1:decide ((i:Int)<(p.a.length:Int))=true:=decide_eq_true (by omega);have hltb:i<p.b.length:=by omega
             obtain ⟨ga,oa,hA2,ci⟩:=(HP.out.ap.below hq2.out) i hlt;replace ci:wr.cell? ⟨ga,oa+i,none⟩=some (.slice (m.rs.getD i (none,0)).1 (p.a.getD i []).length (m.rs.getD i (none,0)).2):=ci;obtain ⟨gb,ob,hA3,bi⟩:=(HP.out.b.below hq2.out) i hltb;replace bi:wr.cell? ⟨gb,ob+i,none⟩=some (.int .i64 (p.b.getD i 0)):=bi;rw[hA2]at p2;rw[hA3]at p3;have BI:=Lk.of bi;have P3:=Lk.of p3;have CI:=Lk.of ci;have P2:=Lk.of p2;have har:=(HP.out.below hq2.out).ar i hlt;have hzr:=HZ.out.r i hlt;have HC:Hid (R=((decide ((p.a.getD i []).length=p.lo.length)&&(nearL 1048576 (p.a.getD i [])&&(decide (-1099511627776≤p.b.getD i 0)&&decide (p.b.getD i 0≤1099511627776))))&&rowsB p.lo.length (p.a.drop (i+1)) (p.b.drop (i+1)))):=by
              show _=_;rw[HL.out,drop_at (z:=[]) hlt,drop_at (z:=0) hltb,rowsB_step]
             have HN:=Lib.hid (rwithin_any (c:=(m.rs.getD i (none,0)).2) har hzr);clear HL har hA2 hA3 p0 p1 p4 hpb;generalize p.a.getD i []=row at*;generalize (m.rs.getD i (none,0)).1=RA at*;generalize (m.rs.getD i (none,0)).2=cR at*;generalize p.b.getD i 0=zz at*;by_cases hrl:row.length=p.lo.length
             ·have d2:((row.length:Int) !=(p.lo.length:Int))=false:=by rw[hrl];simp
              have HC:=Lib.hid (HC.out.trans (by rw[decide_eq_true hrl,Bool.true_and]));clear hrl;generalize nearL 1048576 row=NR at*;go_wp2_with fail;refine HN.out.mono ?_;rintro e w3 ⟨rfl,q3⟩;have HQ3:=Lib.hid (below_trans hq2.out q3);have HB3:=Lib.hid (HPB2.out.below q3 (Nat.le_refl _));have p3:=P3 _ q3;have bi:=BI _ q3;clear q3 P3 BI CI P2;cases NR with
              |false=>
               have HC2:Hid (R=false):=HC.out;clear HC;go_wp2_with fail;exact bodyPost_ret (v:= .bool false) (by simp[results,Tryz.results13,go_sem]) rfl ⟨by rw[HC2.out],HQ3.out⟩
              |true=>
               by_cases h1:zz< -1099511627776
               ·have d5:decide (zz< -1099511627776)=true:=decide_eq_true h1;have HC2:Hid (R=false):=HC.out.trans (by rw[decide_eq_false (show ¬ -1099511627776≤zz by omega)];rfl);clear HC;go_wp2_with fail;exact bodyPost_ret (v:= .bool false) (by simp[results,Tryz.results13,go_sem]) rfl ⟨by rw[HC2.out],HQ3.out⟩
               ·have d5:decide (zz< -1099511627776)=false:=decide_eq_false h1;by_cases h2:1099511627776<zz
                ·have d6:decide (1099511627776<zz)=true:=decide_eq_true h2;have HC2:Hid (R=false):=HC.out.trans (by rw[decide_eq_false (show ¬zz≤1099511627776 by omega),Bool.and_false];rfl);clear HC;go_wp2_with fail;exact bodyPost_ret (v:= .bool false) (by simp[results,Tryz.results13,go_sem]) rfl ⟨by rw[HC2.out],HQ3.out⟩
                ·have d6:decide (1099511627776<zz)=false:=decide_eq_false h2;have HC2:Hid (R=rowsB p.lo.length (p.a.drop (i+1)) (p.b.drop (i+1))):=HC.out.trans (by rw[decide_eq_true (show-1099511627776≤zz by omega),decide_eq_true (show zz≤1099511627776 by omega)];rfl);clear HC;go_wp2_with fail;go_roundg (p.a.length-(i+1))
                 case measure=>omega
                 case rel=>exact ⟨i+1,rfl,by omega,by simp,HC2.out,HQ3.out,HB3.out⟩
             ·have d2:((row.length:Int) !=(p.lo.length:Int))=true:=ne_boolK (by omega);have HC2:Hid (R=false):=HC.out.trans (by rw[decide_eq_false hrl];rfl);clear HC HN;go_wp2_with fail;exact bodyPost_ret (v:= .bool false) (by simp[results,Tryz.results13,go_sem]) rfl ⟨by rw[HC2.out],hq2.out⟩
            ·have d1:decide ((i:Int)<(p.a.length:Int))=false:=decide_eq_false (by omega);have HC2:Hid (R=true):=by
              show _=_;rw[HL.out,drop_none hlt];rfl
             clear HL;go_wp2_with fail;exact bodyPost_ret (v:= .bool true) (by simp[results,Tryz.results13,go_sem]) rfl ⟨by rw[HC2.out],hq2.out⟩
     ·have d5:decide ((160:Int)<(p.a.length:Int))=true:=decide_eq_true (by omega);have HC:Hid (R=false):=HE.out.trans (by rw[decide_eq_false g5];rfl);go_wp2_with fail;exact bodyPost_ret (v:= .bool false) (by simp[results,Tryz.results13,go_sem]) rfl ⟨by rw[HC.out],HQ0.out⟩
    ·have d4:((p.a.length:Int) !=(p.b.length:Int))=true:=ne_boolK (by omega);have HC:Hid (R=false):=HE0.out.trans (by rw[decide_eq_true g1,decide_eq_true g2,decide_eq_true g3,decide_eq_false g4];rfl);go_wp2_with fail;exact bodyPost_ret (v:= .bool false) (by simp[results,Tryz.results13,go_sem]) rfl ⟨by rw[HC.out],HQ0.out⟩
   ·have d3:((p.c.length:Int) !=(p.lo.length:Int))=true:=ne_boolK (by omega);have HC:Hid (R=false):=HE0.out.trans (by rw[decide_eq_true g1,decide_eq_true g2,decide_eq_false g3];rfl);go_wp2_with fail;exact bodyPost_ret (v:= .bool false) (by simp[results,Tryz.results13,go_sem]) rfl ⟨by rw[HC.out],HQ0.out⟩
  ·have d2:((p.hi.length:Int) !=(p.lo.length:Int))=true:=ne_boolK (by omega);have HC:Hid (R=false):=HE0.out.trans (by rw[decide_eq_true g1,decide_eq_false g2];rfl);go_wp2_with fail;exact bodyPost_ret (v:= .bool false) (by simp[results,Tryz.results13,go_sem]) rfl ⟨by rw[HC.out],HQ0.out⟩
 ·have d1:decide ((64:Int)<(p.lo.length:Int))=true:=decide_eq_true (by omega);have HC:Hid (R=false):=HE0.out.trans (by rw[decide_eq_false g1];rfl);go_wp2_with fail;exact bodyPost_ret (v:= .bool false) (by simp[results,Tryz.results13,go_sem]) rfl ⟨by rw[HC.out],HQ0.out⟩
end Go.Proofs.YtpnmcacndjkfaaaGreat
set_option maxHeartbeats 40000000
set_option maxRecDepth 100000
set_option linter.unusedSimpArgs false
set_option linter.unusedVariables false
namespace Go.Proofs.YtpnmcacndjkfaaaGreat
open Go.RowKit Num
def Sh.sm (S:Sr):Sh:=⟨fun v w=>∃A c B d,v= .agg #[.bool S.n,.slice A S.xs.length c,.bool S.m,.slice B S.ys.length d,.bool S.big]∧Rd w A c S.xs∧Rd w B d S.ys,
 fun ⟨A,c,B,d,h1,h2,h3⟩ q=>⟨A,c,B,d,h1,h2.below q (Nat.le_refl _),h3.below q (Nat.le_refl _)⟩,fun ⟨A,c,B,d,h1,h2,h3⟩ hb hg=>⟨A,c,B,d,h1,h2.boxed hb hg,h3.boxed hb hg⟩⟩
def Ct.sm (S:Sr):Ct:=⟨fun v w=>∃A c B d,v= #[.bool S.n,.slice A S.xs.length c,.bool S.m,.slice B S.ys.length d,.bool S.big]∧Rd w A c S.xs∧Rd w B d S.ys,
 fun ⟨A,c,B,d,h1,h2,h3⟩ q=>⟨A,c,B,d,h1,h2.below q (Nat.le_refl _),h3.below q (Nat.le_refl _)⟩,fun ⟨A,c,B,d,h1,h2,h3⟩ hb hg=>⟨A,c,B,d,h1,h2.boxed hb hg,h3.boxed hb hg⟩⟩
theorem rminus_eq {w:World} {s b r:Sr} (hr:minusR s b=r) {A B A' B':Option Addr} {c d c' d':Nat} (ha:Rd w A c s.xs) (hb:Rd w B d s.ys) (ha':Rd w A' c' b.xs) (hb':Rd w B' d' b.ys):Calls Tryz.prog 48 #[.agg #[.bool s.n,.slice A s.xs.length c,.bool s.m,.slice B s.ys.length d,.bool s.big],.agg #[.bool b.n,.slice A' b.xs.length c',.bool b.m,.slice B' b.ys.length d',.bool b.big]] w fun e w'=>RetSm w w' e r:=by
 subst hr;exact rminus_any ha hb ha' hb'
theorem rdot_b {w:World} {m:Pa} {p:Pg} {y:List Rat} {AY:Option Addr} {cY n:Nat} (hp:PgAt w m p) (hok:PgOk p) (hy:GRow w AY (y.map frq)) (hf:∀q∈y,Few q) (hl:y.length=p.a.length) (hn:n=y.length):Calls Tryz.prog 36 #[.slice AY n cY,.slice m.b.1 p.b.length m.b.2] w fun e w2=>RetSm w w2 e (srO (dotO 0 y p.b)):=by
 have h64:∀i,i<p.b.length→-9223372036854775808≤p.b.getD i 0∧p.b.getD i 0≤9223372036854775807:=fun i hi=>hok.ib i (by rw[←hok.b];exact hi);have h1:=rdot_any (c:=cY) (cz:=m.b.2) hy hp.b (by rw[List.length_map,hok.b,hl];exact Nat.le_refl _) (by have:=hok.a;rw[List.length_map,hl];omega) h64;rw[sr0_eq,dotR_rat y p.b few_zero hf (fun z hz=>by
  obtain ⟨i,hi,rfl⟩:=List.getElem_of_mem hz;have:=h64 i hi;rwa[List.getD_eq_getElem?_getD,List.getElem?_eq_getElem hi]at this),List.length_map,←hn]at h1
 exact h1
theorem leastO_few {p:Pg} {y:List Rat} {c:Option (List Int)}:∀(r:List (Int×Int)) (j:Nat) {s:Rat},Few s→∀q,leastO p y c j s r=some q→Few q
 |[],j,s,hs,q,h=>by
  unfold leastO at h;cases h;exact hs
 |(l,hh)::r,j,s,hs,q,h=>by
  rw[leastO_step]at h;obtain ⟨d0,_,h⟩:=Option.bind_eq_some_iff.1 h;obtain ⟨d,_,h⟩:=Option.bind_eq_some_iff.1 h;obtain ⟨u,hu,h⟩:=Option.bind_eq_some_iff.1 h;obtain ⟨m,_,hu⟩:=Option.bind_eq_some_iff.1 hu;exact leastO_few r (j+1) (addO_few hu) q h
theorem minus_least {p:Pg} {y:List Rat} {c:Option (List Int)}:minusR (srO (leastO p y c 0 0 (p.lo.zip p.hi))) (srO (dotO 0 y p.b))=srO (leastP p y c):=by
 rw[minusR_rat (fun s h=>leastO_few _ _ few_zero _ h) (fun s h=>dot_few _ _ few_zero h)];rfl
theorem z4_rrat:(Tryz.prog.info? 45).map (·.size)=some 4:=by kernel_rfl
theorem rbound_bad {w:World} {m:Pa} {p:Pg} {A:Option Addr} {c:Nat} {l:List Fr} (hp:PgAt w m p) (hz:PgSz p) (h:GRow w A l) (hs:l.length≤1000000) (hb:¬(rightPg p=true∧numbersB p l=true)):Calls Tryz.prog 23 #[.agg (pgC m p),.slice A l.length c] w fun e w'=>e= .returned (.tuple #[.agg z4,.int .i64 2])∧Below w.heap.size w w':=by
 have M:=((Mem.start w).new tyR (pgC m p)).newAt (g:=w.heap.size+1) (by simp) 45 z4;have HR0:=Lib.hid (rpright_any (hp.below M.bel) hz);have HN0:=Lib.hid (fun w' (q:Below w.heap.size w w')=>rnumbers_any (m:=m) (p:=p) (c:=c) (h.below q) hs);obtain ⟨p0,p1,p2,p3,p4⟩:=(M.k (i:=1) rfl).fiveP;clear hp hz h hs;by_cases hR:rightPg p=true
 ·have hn:numbersB p l=false:=by
   cases hh:numbersB p l
   ·rfl
   ·exact absurd ⟨hR,hh⟩ hb
  rw[hR]at HR0;rw[hn]at HN0;clear hR hn hb;go_enter Tryz.func23,Tryz.ntmps23;go_wp2_with fail;refine HR0.out.mono ?_;rintro e w1 ⟨rfl,q1⟩;have M1:=M.below q1;obtain ⟨p0,p1,p2,p3,p4⟩:=(M1.k (i:=1) rfl).fiveP;go_wp2_with fail;refine (HN0.out _ M1.bel).mono ?_;rintro e w2 ⟨rfl,q2⟩;have M2:=M1.below q2;go_wp2_with ((with_reducible refine st_ ?_);refine wp_put2 _ _ (M2.k (i:=0) rfl) rfl rfl rfl rfl z4_rrat rfl rfl ?_;intro w5 b5 g5';obtain ⟨f0,f1,f2,f3⟩:=Blk.four b5);refine bodyPost_ret (v:= .tuple #[.agg z4,.int .i64 2]) (by simp[results,Tryz.results23,go_sem,f0,f1,f2,f3]) rfl ⟨rfl,?_⟩;exact ((Stp.grew ((M2.k (i:=0) rfl).box rfl) g5').below M2.bel M2.bel.size (fun g e=>by omega))
 ·rw[Bool.not_eq_true]at hR;rw[hR]at HR0;clear hR hb;go_enter Tryz.func23,Tryz.ntmps23;go_wp2_with fail;refine HR0.out.mono ?_;rintro e w1 ⟨rfl,q1⟩;have M1:=M.below q1;go_wp2_with ((with_reducible refine st_ ?_);refine wp_put2 _ _ (M1.k (i:=0) rfl) rfl rfl rfl rfl z4_rrat rfl rfl ?_;intro w5 b5 g5';obtain ⟨f0,f1,f2,f3⟩:=Blk.four b5);refine bodyPost_ret (v:= .tuple #[.agg z4,.int .i64 2]) (by simp[results,Tryz.results23,go_sem,f0,f1,f2,f3]) rfl ⟨rfl,?_⟩;exact ((Stp.grew ((M1.k (i:=0) rfl).box rfl) g5').below M1.bel M1.bel.size (fun g e=>by omega))
def RBnd (w w':World) (e:Ending) (o:Option Rat):Prop:=Below w.heap.size w w'∧((∃q A c B d,o=some q∧e= .returned (.tuple #[rv (sN q.num) A (sD q.num).length c false B (dig q.den).length d,.int .i64 0])∧Rd w' A c (sD q.num)∧Rd w' B d (dig q.den))∨(o=none∧e= .returned (.tuple #[.agg z4,.int .i64 3])))
theorem rbound_good {w:World} {m:Pa} {p:Pg} {A:Option Addr} {c n:Nat} {qs:List Rat} (hp:PgAt w m p) (hz:PgSz p) (h:GRow w A (qs.map frq)) (hf:∀q∈qs,Few q) (hn:n=qs.length) (hr:rightPg p=true) (hb:numbersB p (qs.map frq)=true):Calls Tryz.prog 23 #[.agg (pgC m p),.slice A n c] w fun e w'=>RBnd w w' e (leastP p qs (some p.c)):=by
 have hok:=ok_of_right hr;have hl:qs.length=p.a.length:=by
  unfold numbersB at hb;rw[Bool.and_eq_true,decide_eq_true_eq,List.length_map]at hb;exact hb.1
 have HN0:=Lib.hid (fun w' (q:Below w.heap.size w w')=>rnumbers_any (m:=m) (p:=p) (c:=c) (h.below q) (by have:=hok.a;rw[List.length_map];omega));rw[hb,List.length_map,←hn]at HN0;have M:=((Mem.start w).new tyR (pgC m p)).newAt (g:=w.heap.size+1) (by simp) 45 z4;have HR0:=Lib.hid (rpright_any (hp.below M.bel) hz);rw[hr]at HR0;obtain ⟨SL,hSL⟩:∃S,srO (leastO p qs (some p.c) 0 0 (p.lo.zip p.hi))=S:=⟨_,rfl⟩;obtain ⟨SB,hSB⟩:∃S,srO (dotO 0 qs p.b)=S:=⟨_,rfl⟩;obtain ⟨R,hR⟩:∃R,leastP p qs (some p.c)=R:=⟨_,rfl⟩;have HL:=Lib.hid (fun (w':World) (q:Below w.heap.size w w')=>rleast_any (cY:=c) (b:=true) (c:=some p.c) rfl (hp.below q) hok (h.below q) hf hl);have HB:=Lib.hid (fun (w':World) (q:Below w.heap.size w w')=>rdot_b (cY:=c) (hp.below q) hok (h.below q) hf hl hn);rw[hSL,←hn]at HL;rw[hSB]at HB;have HM:Hid (minusR SL SB=srO R):=by
  show _=_;rw[←hSL,←hSB,←hR];exact minus_least
 rw[hR];obtain ⟨p0,p1,p2,p3,p4⟩:=(M.k (i:=1) rfl).fiveP;clear hp hz h hf hr hb hok hl hn hR hSL hSB;go_enter Tryz.func23,Tryz.ntmps23;go_wp2_with fail;refine HR0.out.mono ?_;rintro e w1 ⟨rfl,q1⟩;replace M:=M.below q1;clear p0 p1 p2 p3 p4;obtain ⟨p0,p1,p2,p3,p4⟩:=(M.k (i:=1) rfl).fiveP;go_wp2_with fail;refine (HN0.out _ M.bel).mono ?_;rintro e w2 ⟨rfl,q2⟩;replace M:=M.below q2;clear q1 q2 HR0 HN0 p0 p1 p2 p3 p4;go_upto_region 3 with fail;refine region_st (n:=10) (frame:= ?frame1) (fun jK=>[.val (.fix (.agg (pgC m p))),.val (.fix (.slice A n c)),.val (Sh.sm (SL)),.val (.fix (.slice A n c)),.val (.fix (.pointer (some ⟨w.heap.size,3,none⟩))),.val (.fix (.slice m.b.1 p.b.length m.b.2)),.val (Sh.sm (SB)),.val (Sh.sm ((srO R))),.cell 9 tyS z5 (.sm ((srO R))),.none].getD jK .none) [] (by kernel_rfl) (by kernel_rfl) (by kernel_rfl) rfl M (fun _ h=>by cases h) (fun _ h=>by cases h) ?_ ?_ ?_
 case refine_1=>
  intro s;simp only[fr,Act.put,List.append_eq,List.cons_append,List.nil_append,List.setIfInBounds_toArray,List.set_cons_zero,List.set_cons_succ,Nat.reduceAdd];rfl
 case refine_2=>
  refine SC 0 1 rfl ?_ (SC 1 2 rfl ?_ (SC 2 3 rfl ?_ (SC 3 4 rfl ?_ (SC 4 5 rfl ?_ (SC 5 6 rfl ?_ (SC 6 7 rfl ?_ (SC 7 8 rfl ?_ (SC 8 9 rfl ?_ (SC 9 10 rfl ?_ Steps.nil)))))))));all_goals (intro L s w9 hN hU hi hS K hK;dsimp only at hK⊢;simp only[Act.put,List.setIfInBounds_toArray,List.set_cons_zero,List.set_cons_succ]at hK)
  ·obtain ⟨u0,u1,u2,u3,u4⟩:=(hS.mem.k (i:=1) rfl).fiveP;go_simp;exact hK.out _ _ (hS.val rfl rfl (Below.refl _ _) rfl)
  ·go_simp;exact hK.out _ _ (hS.val rfl rfl (Below.refl _ _) rfl)
  ·have e0:=hS.fx 0 rfl rfl (hN.out 0 rfl);simp only[e0]at hK⊢;have e1:=hS.fx 1 rfl rfl (hN.out 1 rfl);simp only[e1]at hK⊢;go_simp;go_at_call 49;refine (HL.out _ hS.mem.bel).mono ?_;rintro e9 w10 ⟨⟨A0,c0,B0,d0,rfl,h0,k0⟩,q⟩;exact hK.out _ _ (hS.val rfl rfl q ⟨A0,c0,B0,d0,rfl,h0,k0⟩)
  ·go_simp;exact hK.out _ _ (hS.val rfl rfl (Below.refl _ _) rfl)
  ·go_simp;exact hK.out _ _ (hS.val rfl rfl (Below.refl _ _) rfl)
  ·have e4:=hS.fx 4 rfl rfl (hN.out 4 rfl);simp only[e4]at hK⊢;obtain ⟨u0,u1,u2,u3,u4⟩:=(hS.mem.k (i:=1) rfl).fiveP;go_simp;exact hK.out _ _ (hS.val rfl rfl (Below.refl _ _) rfl)
  ·have e3:=hS.fx 3 rfl rfl (hN.out 3 rfl);simp only[e3]at hK⊢;have e5:=hS.fx 5 rfl rfl (hN.out 5 rfl);simp only[e5]at hK⊢;go_simp;go_at_call 36;refine (HB.out _ hS.mem.bel).mono ?_;rintro e9 w10 ⟨⟨A0,c0,B0,d0,rfl,h0,k0⟩,q⟩;exact hK.out _ _ (hS.val rfl rfl q ⟨A0,c0,B0,d0,rfl,h0,k0⟩)
  ·obtain ⟨A2,c2,B2,d2,e2,h2,k2⟩:=hS.val_at 2 rfl (by decide) (hN.out 2 rfl);simp only[e2]at hK⊢;obtain ⟨A6,c6,B6,d6,e6,h6,k6⟩:=hS.val_at 6 rfl (by decide) (hN.out 6 rfl);simp only[e6]at hK⊢;go_simp;go_at_call 48;refine (rminus_eq HM.out h2 k2 h6 k6).mono ?_;rintro e9 w10 ⟨⟨A0,c0,B0,d0,rfl,h0,k0⟩,q⟩;exact hK.out _ _ (hS.val rfl rfl q ⟨A0,c0,B0,d0,rfl,h0,k0⟩)
  ·go_simp;exact hK.out _ _ (hS.new rfl rfl hi.out (fun _=>hU.out 9 _ rfl rfl) rfl)
  ·obtain ⟨A7,c7,B7,d7,e7,h7,k7⟩:=hS.val_at 7 rfl (by decide) (hN.out 7 rfl);simp only[e7]at hK⊢;obtain ⟨g9,cs9,e9,l9,b9,n9,z9,_⟩:=hS.cell_at 8 rfl (by decide) (hN.out 8 rfl);obtain rfl:=z9 hi.out;simp only[e9]at hK⊢;refine ite_of rfl ?_;refine wp_store_row _ _ _ rfl g9 _ rfl rfl _ _ b9 info_sum rfl (by rw[←Array.all_toList];rfl) ?_;simp only[Act.put];exact hK.out undef _ (hS.fill (u:=undef) (c:= .sm ((srO R))) rfl rfl (by decide) rfl (hN.out 8 rfl) hi.out e9 (setRow_grown _ _ _) (b9.row _) rfl ⟨A7,c7,B7,d7,rfl,h7,k7⟩)
 intro L s w9 hall hS;obtain ⟨g8,cs8,e8,l8,b8,n8,_,z8⟩:=hS.cell_at 8 rfl (by decide) (hall 8 (by decide));obtain ⟨A8,c8,B8,d8,rfl,h8,k8⟩:=z8 (hall 9 (by decide));rw[e8];have M9:=((hS.mem.addR k8).addR h8).addK b8;have HM9:=Lib.hid M9;have l9:=l8;have p2:=(M.k (i:=0) rfl).lt;clear hS hall M9 h8 k8 b8 HL HB HM l8 M;cases R with
 |some q=>
  dsimp only[srO]at HM9;obtain ⟨v1,v2,v3,v4,v5⟩:=(HM9.out.k (i:=0) rfl).fiveP;go_wp2_with ((with_reducible refine st_ ?_);refine wp_put2 _ _ (HM9.out.k (i:=1) rfl) rfl rfl rfl rfl z4_rrat rfl rfl ?_;intro w5 b5 g5';obtain ⟨f0,f1,f2,f3⟩:=Blk.four b5);have M5:=HM9.out.rowAt (i:=1) rfl (by omega) (by simp<;>omega) rfl b5 g5';exact bodyPost_ret (v:= .tuple #[rv (sN q.num) A8 (sD q.num).length c8 false B8 (dig q.den).length d8,.int .i64 0]) (by simp[results,Tryz.results23,go_sem,f0,f1,f2,f3]) rfl ⟨M5.bel,.inl ⟨q,A8,c8,B8,d8,rfl,rfl,M5.r (i:=0) rfl,M5.r (i:=1) rfl⟩⟩
 |none=>
  dsimp only[srO]at HM9;obtain ⟨v1,v2,v3,v4,v5⟩:=(HM9.out.k (i:=0) rfl).fiveP;go_wp2_with ((with_reducible refine st_ ?_);refine wp_put2 _ _ (HM9.out.k (i:=1) rfl) rfl rfl rfl rfl z4_rrat rfl rfl ?_;intro w5 b5 g5';obtain ⟨f0,f1,f2,f3⟩:=Blk.four b5);have M5:=HM9.out.rowAt (i:=1) rfl (by omega) (by simp<;>omega) rfl b5 g5';exact bodyPost_ret (v:= .tuple #[.agg z4,.int .i64 3]) (by simp[results,Tryz.results23,go_sem,f0,f1,f2,f3]) rfl ⟨M5.bel,.inr ⟨rfl,rfl⟩⟩
end Go.Proofs.YtpnmcacndjkfaaaGreat
set_option maxHeartbeats 4000000
set_option maxRecDepth 100000
set_option linter.unusedSimpArgs false
set_option linter.unusedVariables false
namespace Go.Proofs.YtpnmcacndjkfaaaGreat
open Go.RowKit Num
theorem ptheirs_any {w:World} {m:Pa} {p:Pg}:Calls Tryz.prog 12 #[.agg (pgC m p)] w fun e w'=>e= .returned (.agg (pgC m p))∧Below w.heap.size w w':=by
 have M:=((Mem.start w).new tyR (pgC m p)).newAt (g:=w.heap.size+1) (by simp) tyP #[.slice none 0 0,.slice none 0 0,.slice none 0 0,.slice none 0 0,.slice none 0 0];obtain ⟨p0,p1,p2,p3,p4⟩:=(M.k (i:=1) rfl).fiveP;have hinf:(Tryz.prog.info? tyP).map (·.size)=some 5:=by kernel_rfl
 go_enter Tryz.func12,Tryz.ntmps12;go_wp2_with ((with_reducible refine st_ ?_);refine wp_put2 _ _ (M.k (i:=0) rfl) rfl rfl rfl rfl hinf rfl rfl ?_;intro w4 b4 g4;replace M:=M.rowAt (i:=0) rfl (by omega) (by simp<;>omega) rfl b4 g4;obtain ⟨f0,f1,f2,f3,f4⟩:=Blk.fiveP b4);exact bodyPost_ret (v:= .agg (pgC m p)) (by simp[results,Tryz.results12,go_sem,f0,f1,f2,f3,f4]) rfl ⟨rfl,M.bel⟩
def shortA (a:List (List Int)):Bool:=a.all fun r=>decide (r.length≤200)
theorem shortA_step (r:List Int) (a:List (List Int)):shortA (r::a)=(decide (r.length≤200)&&shortA a):=rfl
def fitsPg (p:Pg):Bool:=decide (p.lo.length≤200)&&(decide (p.hi.length≤200)&&(decide (p.c.length≤200)&&(decide (p.a.length≤200)&&(decide (p.b.length≤200)&&shortA p.a))))
theorem sz_fits {p:Pg} (h:fitsPg p=true):PgSz p:=by
 unfold fitsPg at h;simp only[Bool.and_eq_true,decide_eq_true_eq]at h;obtain ⟨h1,h2,h3,h4,h5,h6⟩:=h;refine ⟨by omega,by omega,by omega,by omega,by omega,fun i hi=> ?_⟩;have:=List.all_eq_true.1 h6 (p.a.getD i []) (by rw[List.getD_eq_getElem?_getD,List.getElem?_eq_getElem hi];exact List.getElem_mem hi);rw[decide_eq_true_eq]at this;omega
theorem pfits_any {w:World} {m:Pa} {p:Pg} (hp:PgAt w m p):Calls Tryz.prog 19 #[.agg (pgC m p)] w fun e w'=>e= .returned (.bool (fitsPg p))∧Below w.heap.size w w':=by
 have HP:=Lib.hid hp;obtain ⟨R,hR⟩:∃R,fitsPg p=R:=⟨_,rfl⟩;have HE:Hid (R=fitsPg p):=hR.symm;rw[hR];unfold fitsPg at HE;have M:=(Mem.start w).new tyR (pgC m p);obtain ⟨p0,p1,p2,p3,p4⟩:=(M.k (i:=0) rfl).fiveP;clear hR hp;go_enter Tryz.func19,Tryz.ntmps19;by_cases g1:p.lo.length≤200
 ·have d1:decide ((200:Int)<(p.lo.length:Int))=false:=decide_eq_false (by omega);rw[decide_eq_true g1,Bool.true_and]at HE;by_cases g2:p.hi.length≤200
  ·have d2:decide ((200:Int)<(p.hi.length:Int))=false:=decide_eq_false (by omega);rw[decide_eq_true g2,Bool.true_and]at HE;by_cases g3:p.c.length≤200
   ·have d3:decide ((200:Int)<(p.c.length:Int))=false:=decide_eq_false (by omega);rw[decide_eq_true g3,Bool.true_and]at HE;by_cases g4:p.a.length≤200
    ·have d4:decide ((200:Int)<(p.a.length:Int))=false:=decide_eq_false (by omega);rw[decide_eq_true g4,Bool.true_and]at HE;by_cases g5:p.b.length≤200
     ·have d5:decide ((200:Int)<(p.b.length:Int))=false:=decide_eq_false (by omega);rw[decide_eq_true g5,Bool.true_and]at HE;have HE0:Hid (R=shortA (p.a.drop 0)):=HE.out;have HM:=Lib.hid M;clear HE M;go_wp2_with fail;go_loopg [35] p.a.length (fun k pp wr=>∃i,k=p.a.length-i∧i≤p.a.length∧pp= .int .i64 (i:Nat)∧Hid (R=shortA (p.a.drop i))∧Mem w wr [(w.heap.size,tyR,pgC m p)] [])
      case atStart=>exact ⟨0,rfl,Nat.zero_le _,rfl,HE0.out,HM.out⟩
      case round=>
       clear HE0 HM p0 p1 p2 p3 p4 d1 d2 d3 d5;obtain ⟨i,hk,hi,rfl,HL,M⟩:=hrel;obtain ⟨p0,p1,p2,p3,p4⟩:=(M.k (i:=0) rfl).fiveP;by_cases hlt:i<p.a.length
       ·have d1:decide ((i:Int)<(p.a.length:Int))=true:=decide_eq_true (by omega);obtain ⟨ga,oa,hA2,ci⟩:=(HP.out.ap.below M.bel) i hlt;replace ci:wr.cell? ⟨ga,oa+i,none⟩=some (.slice (m.rs.getD i (none,0)).1 (p.a.getD i []).length (m.rs.getD i (none,0)).2):=ci;rw[hA2]at p2;have HC:Hid (R=(decide ((p.a.getD i []).length≤200)&&shortA (p.a.drop (i+1)))):=by
         show _=_;rw[HL.out,drop_at (z:=[]) hlt,shortA_step]
        have HM:=Lib.hid M;clear HL hA2 M;generalize p.a.getD i []=row at*;generalize (m.rs.getD i (none,0)).1=RA at*;generalize (m.rs.getD i (none,0)).2=cR at*;by_cases hrl:row.length≤200
        ·have d2:decide ((200:Int)<(row.length:Int))=false:=decide_eq_false (by omega);have HC2:Hid (R=shortA (p.a.drop (i+1))):=HC.out.trans (by rw[decide_eq_true hrl,Bool.true_and]);clear HC;go_wp2_with fail;go_roundg (p.a.length-(i+1))
         case measure=>omega
         case rel=>exact ⟨i+1,rfl,by omega,by simp,HC2.out,HM.out⟩
        ·have d2:decide ((200:Int)<(row.length:Int))=true:=decide_eq_true (by omega);have HC2:Hid (R=false):=HC.out.trans (by rw[decide_eq_false hrl];rfl);clear HC;go_wp2_with fail;exact bodyPost_ret (v:= .bool false) (by simp[results,Tryz.results19,go_sem]) rfl ⟨by rw[HC2.out],HM.out.bel⟩
       ·have d1:decide ((i:Int)<(p.a.length:Int))=false:=decide_eq_false (by omega);have HC2:Hid (R=true):=by
         show _=_;rw[HL.out,drop_none hlt];rfl
        have HM:=Lib.hid M;clear HL M;go_wp2_with fail;exact bodyPost_ret (v:= .bool true) (by simp[results,Tryz.results19,go_sem]) rfl ⟨by rw[HC2.out],HM.out.bel⟩
     ·have d5:decide ((200:Int)<(p.b.length:Int))=true:=decide_eq_true (by omega);rw[decide_eq_false g5]at HE;have HC:Hid (R=false):=HE.out;go_wp2_with fail;exact bodyPost_ret (v:= .bool false) (by simp[results,Tryz.results19,go_sem]) rfl ⟨by rw[HC.out],M.bel⟩
    ·have d4:decide ((200:Int)<(p.a.length:Int))=true:=decide_eq_true (by omega);rw[decide_eq_false g4]at HE;have HC:Hid (R=false):=HE.out;go_wp2_with fail;exact bodyPost_ret (v:= .bool false) (by simp[results,Tryz.results19,go_sem]) rfl ⟨by rw[HC.out],M.bel⟩
   ·have d3:decide ((200:Int)<(p.c.length:Int))=true:=decide_eq_true (by omega);rw[decide_eq_false g3]at HE;have HC:Hid (R=false):=HE.out;go_wp2_with fail;exact bodyPost_ret (v:= .bool false) (by simp[results,Tryz.results19,go_sem]) rfl ⟨by rw[HC.out],M.bel⟩
  ·have d2:decide ((200:Int)<(p.hi.length:Int))=true:=decide_eq_true (by omega);rw[decide_eq_false g2]at HE;have HC:Hid (R=false):=HE.out;go_wp2_with fail;exact bodyPost_ret (v:= .bool false) (by simp[results,Tryz.results19,go_sem]) rfl ⟨by rw[HC.out],M.bel⟩
 ·have d1:decide ((200:Int)<(p.lo.length:Int))=true:=decide_eq_true (by omega);rw[decide_eq_false g1]at HE;have HC:Hid (R=false):=HE.out;go_wp2_with fail;exact bodyPost_ret (v:= .bool false) (by simp[results,Tryz.results19,go_sem]) rfl ⟨by rw[HC.out],M.bel⟩
def fewF (f:Fr):Bool:=decide (f.xs.length≤20)&&decide (f.ys.length≤20)
def fewG (l:List Fr):Bool:=decide (l.length≤200)&&l.all fewF
theorem fewF_step (f:Fr) (l:List Fr):(f::l).all fewF=(fewF f&&l.all fewF):=rfl
theorem info_rratP:(Tryz.prog.info? 45).map (·.size)=some 4:=by kernel_rfl
theorem pfew_any {w:World} {A:Option Addr} {c:Nat} {l:List Fr} (h:GRow w A l):Calls Tryz.prog 20 #[.slice A l.length c] w fun e w'=>e= .returned (.bool (fewG l))∧Below w.heap.size w w':=by
 have HG:=Lib.hid h;obtain ⟨R,hR⟩:∃R,fewG l=R:=⟨_,rfl⟩;have HE:Hid (R=fewG l):=hR.symm;rw[hR];unfold fewG at HE;clear hR h;by_cases g1:l.length≤200
 ·have d1:decide ((200:Int)<(l.length:Int))=false:=decide_eq_false (by omega);rw[decide_eq_true g1,Bool.true_and]at HE;have HE0:Hid (R=(l.drop 0).all fewF):=HE.out;clear HE;go_enter Tryz.func20,Tryz.ntmps20;go_wp2_with fail;go_loopg [10] l.length (fun k pp wr=>∃j,k=l.length-j∧j≤l.length∧pp= .int .i64 (j:Nat)∧Hid (R=(l.drop j).all fewF)∧Below w.heap.size w wr)
  case atStart=>exact ⟨0,rfl,Nat.zero_le _,rfl,HE0.out,Below.refl _ _⟩
  case round=>
   clear HE0;obtain ⟨j,hk,hj,rfl,HL,hq⟩:=hrel;by_cases hlt:j<l.length
   ·have d1:decide ((j:Int)<(l.length:Int))=true:=decide_eq_true (by omega);obtain ⟨g,o,rfl,A',c',B',d',a1,a2,a3,a4,hx,hy⟩:=(HG.out.below hq) j hlt;have HC:Hid (R=((decide ((l.getD j fr0).xs.length≤20)&&decide ((l.getD j fr0).ys.length≤20))&&(l.drop (j+1)).all fewF)):=by
     show _=_;rw[HL.out,drop_at (z:=fr0) hlt,fewF_step];rfl
    generalize (l.getD j fr0).n=n1 at*;generalize (l.getD j fr0).xs=xs1 at*;generalize (l.getD j fr0).m=n2 at*;generalize (l.getD j fr0).ys=ys1 at*;clear HL hx hy;have M2:=(Mem.start wr).new 45 z4;go_upto_region 6 with ((with_reducible refine st_ ?_);refine wp_put2 _ _ (M2.k (i:=0) rfl) rfl rfl rfl rfl info_rratP rfl rfl ?_;intro w5 b5 g5';replace M2:=M2.row (by omega) (by simp) rfl b5 g5');obtain ⟨f1,f2,f3,f4⟩:=(M2.k (i:=0) rfl).four;have HQ2:=Lib.hid (below_trans hq M2.bel);clear b5 g5' a1 a2 a3 a4 M2 hq;by_cases h1:xs1.length≤20
    ·have d2:decide ((20:Int)<(xs1.length:Int))=false:=decide_eq_false (by omega);by_cases h2:ys1.length≤20
     ·have d3:decide ((20:Int)<(ys1.length:Int))=false:=decide_eq_false (by omega);have HC2:Hid (R=(l.drop (j+1)).all fewF):=HC.out.trans (by rw[decide_eq_true h1,decide_eq_true h2];rfl);clear HC;go_wp2_with fail;go_roundg (l.length-(j+1))
      case measure=>omega
      case rel=>exact ⟨j+1,rfl,by omega,by simp,HC2.out,HQ2.out⟩
     ·have d3:decide ((20:Int)<(ys1.length:Int))=true:=decide_eq_true (by omega);have HC2:Hid (R=false):=HC.out.trans (by rw[decide_eq_false h2,Bool.and_false];rfl);clear HC;go_wp2_with fail;exact bodyPost_ret (v:= .bool false) (by simp[results,Tryz.results20,go_sem]) rfl ⟨by rw[HC2.out],HQ2.out⟩
    ·have d2:decide ((20:Int)<(xs1.length:Int))=true:=decide_eq_true (by omega);have HC2:Hid (R=false):=HC.out.trans (by rw[decide_eq_false h1];rfl);clear HC;go_wp2_with fail;exact bodyPost_ret (v:= .bool false) (by simp[results,Tryz.results20,go_sem]) rfl ⟨by rw[HC2.out],HQ2.out⟩
   ·have d1:decide ((j:Int)<(l.length:Int))=false:=decide_eq_false (by omega);have HC2:Hid (R=true):=by
     show _=_;rw[HL.out,drop_none hlt];rfl
    clear HL;go_wp2_with fail;exact bodyPost_ret (v:= .bool true) (by simp[results,Tryz.results20,go_sem]) rfl ⟨by rw[HC2.out],hq⟩
 ·have d1:decide ((200:Int)<(l.length:Int))=true:=decide_eq_true (by omega);rw[decide_eq_false g1]at HE;have HC:Hid (R=false):=HE.out;clear HE;go_enter Tryz.func20,Tryz.ntmps20;go_wp2_with fail;exact bodyPost_ret (v:= .bool false) (by simp[results,Tryz.results20,go_sem]) rfl ⟨by rw[HC.out],Below.refl _ _⟩
end Go.Proofs.YtpnmcacndjkfaaaGreat

import Derived.Test.YtpnmcacndjkfaaaGreatKS
set_option maxHeartbeats 8000000
set_option maxRecDepth 100000
set_option linter.unusedSimpArgs false
set_option linter.unusedVariables false
namespace Go.Proofs.YtpnmcacndjkfaaaGreat
open Go.RowKit Num
def srf (s:Sr):Fr:=⟨s.n,s.xs,s.m,s.ys⟩
theorem plus_srO {o d:Option Rat}{z:Int}(ho:∀s,o=some s→Few s)(hd:∀s,d=some s→Few s)(h1: -9223372036854775808≤z)(h2:z≤9223372036854775807):plusR (srO o) (srf (srO d)) z=srO (o.bind fun s=>d.bind fun x=>(mulO x z).bind fun p=>addO s p):=by
 cases d with
 |some x=>exact plusR_rat ho (hd x rfl) h1 h2
 |none=>
  have e:qmulR false [] false [] (sN z) (sD z) false [1]=dbad 2:=by
   unfold qmulR;rw[qright_nil,Bool.false_and];rfl
  have e2:(o.bind fun s=>(none:Option Rat).bind fun x=>(mulO x z).bind fun p=>addO s p)=none:=by cases o<;>rfl
  rw[e2];show plusR (srO o) ⟨false,[],false,[]⟩ z=_;simp[plusR,e,dbad,qadd_nil_r,srO]
def dcol (p:Pg)(y:List Rat)(c:Option (List Int))(j:Nat):Option Rat:=(dotO 0 y (colL p j)).bind (addC c j)
def endZ (d:Option Rat)(l h:Int):Int:=if (srO d).n then h else l
theorem sN_lt (q:Rat):sN q.num=decide (q<0):=by
 by_cases h:q<0
 ·rw[decide_eq_true h];have:=Rat.not_le.2 h;exact decide_eq_true (Int.not_le.1 fun h2=>this (Rat.num_nonneg.1 h2))
 ·rw[decide_eq_false h];exact decide_eq_false (Int.not_lt.2 (Rat.num_nonneg.2 (Rat.not_lt.1 h)))
theorem least_next (p:Pg)(y:List Rat)(c:Option (List Int))(j:Nat)(o:Option Rat)(l h:Int)(r:List (Int×Int)):(o.bind fun s=>leastO p y c j s ((l,h)::r))=(o.bind fun s=>(dcol p y c j).bind fun x=>(mulO x ((endZ (dcol p y c j) l h:Int):Rat)).bind fun m=>addO s m).bind fun t=>leastO p y c (j+1) t r:=by
 cases o with
 |none=>rfl
 |some s=>
  show leastO p y c j s ((l,h)::r)=Option.bind ((dcol p y c j).bind _) _;rw[leastO_step];unfold dcol;cases dotO 0 y (colL p j) with
  |none=>rfl
  |some d0=>
   show Option.bind (addC c j d0) _=Option.bind (Option.bind (addC c j d0) _) _;cases hd:addC c j d0 with
   |none=>rfl
   |some d=>
    have e:((endZ (some d) l h:Int):Rat)=if d<0 then(h:Rat) else(l:Rat):=by
     unfold endZ;show(((if sN d.num=true then h else l:Int)):Rat)=_;rw[sN_lt];by_cases hh:d<0
     ·rw[decide_eq_true hh,if_pos rfl,if_pos hh]
     ·rw[decide_eq_false hh,if_neg (by decide),if_neg hh]
    have e':(some d0).bind (addC c j)=some d:=hd;rw[e'];show _=Option.bind (Option.bind (mulO d ((endZ (some d) l h:Int):Rat)) _) _;rw[e];rfl
theorem addO_few {a b:Rat}{q:Rat}(h:addO a b=some q):Few q:=(qfit_some h).2
theorem bind_few {o:Option Rat}{f:Rat→Option Rat}(hf:∀s q,f s=some q→Few q):∀q,o.bind f=some q→Few q:=fun q h=>by
 obtain⟨s,_,h2⟩:=Option.bind_eq_some_iff.1 h;exact hf s q h2
theorem dot_few:∀(l:List Rat)(m:List Int){s t:Rat},Few s→dotO s l m=some t→Few t
 |[],m,s,t,hs,h=>by
  unfold dotO at h;cases h;exact hs
 |x::l,[],s,t,hs,h=>by
  unfold dotO at h;cases h;exact hs
 |x::l,n::m,s,t,hs,h=>by
  unfold dotO at h;obtain⟨p,hp,h⟩:=Option.bind_eq_some_iff.1 h;obtain⟨u,hu,h⟩:=Option.bind_eq_some_iff.1 h;exact dot_few l m (qfit_some hu).2 h
theorem few_zero:Few (0:Rat):=few_i64 (z:=0) (by decide) (by decide)
theorem sr0_eq:sr0=srO (some 0):=rfl
theorem dcol_few {p:Pg}{y:List Rat}{c:Option (List Int)}{j:Nat}:∀q,dcol p y c j=some q→Few q:=fun q h=>by
 obtain⟨d,h1,h2⟩:=Option.bind_eq_some_iff.1 h;cases c with
 |none=>
  have:some d=some q:=h2;cases this;exact dot_few _ _ few_zero h1
 |some c=>exact addO_few h2
theorem mul_one_of {z:Int}(h1: -9223372036854775808≤z)(h2:z≤9223372036854775807):mulO (z:Rat) ((1:Int):Rat)=some (z:Rat):=by
 have e:(z:Rat)*((1:Int):Rat)=z:=Rat.mul_one _;unfold mulO;rw[e];exact qfit_of (few_i64 h1 h2)
theorem plus_cost {o:Option Rat}{z:Int}(ho:∀s,o=some s→Few s)(h1: -9223372036854775808≤z)(h2:z≤9223372036854775807):plusR (srO o) (frq (z:Rat)) 1=srO (o.bind fun d=>addO d (z:Rat)):=by
 rw[plusR_rat ho (few_i64 h1 h2) (by decide) (by decide),mul_one_of h1 h2];rfl
theorem srO_big_iff (o:Option Rat):(srO o).big=o.isNone:=by cases o<;>rfl
abbrev smC (s:Sr)(A:Option Addr)(c:Nat)(B:Option Addr)(d:Nat):Array Value:= #[.bool s.n,.slice A s.xs.length c,.bool s.m,.slice B s.ys.length d,.bool s.big]
theorem frq_int (z:Int):frq (z:Rat)=⟨sN z,sD z,false,[1]⟩:=by
 unfold frq;rw[Rat.num_intCast,den_int]
theorem RetSm.elim {w w':World}{e:Ending}{n:Bool}{xs:List Nat}{m:Bool}{ys:List Nat}{b:Bool}(h:RetSm w w' e ⟨n,xs,m,ys,b⟩):(∃A c B d,e= .returned (.agg #[.bool n,.slice A xs.length c,.bool m,.slice B ys.length d,.bool b])∧Rd w' A c xs∧Rd w' B d ys)∧Below w.heap.size w w':=h
theorem Mem.on {w0 w1 w:World}{Ks:List (Nat×TypeId×Array Value)}{Rs:List (Option Addr×Nat×List Nat)}(M:Mem w1 w Ks Rs)(q:Below w0.heap.size w0 w1):Mem w0 w Ks Rs:=⟨below_trans q M.bel,M.ks,M.rs⟩
theorem rleast_any {w:World}{m:Pa}{p:Pg}{y:List Rat}{AY:Option Addr}{cY:Nat}{b:Bool}{c:Option (List Int)}(hc:c=if b then some p.c else none)(hp:PgAt w m p)(hok:PgOk p)(hy:GRow w AY (y.map frq))(hf:∀q∈y,Few q)(hl:y.length=p.a.length):Calls Tryz.prog 49 #[.agg (pgC m p),.slice AY y.length cY,.bool b] w fun e w'=>RetSm w w' e (srO (leastO p y c 0 0 (p.lo.zip p.hi))):=by
 have HP:=ZH hp;have HOK:=ZH hok;have HLY:=ZH hl;obtain⟨L,hL⟩:∃L,y.length=L:=⟨_,rfl⟩;have HD:=ZH (show ∀(w':World)(A:Option Addr)(c:Nat)(j:Nat),j<p.lo.length→Below w.heap.size w w'→IRow w' A (colL p j)→Calls Tryz.prog 36 #[.slice AY L cY,.slice A p.a.length c] w' fun e w2=>RetSm w' w2 e (srO (dotO 0 y (colL p j))) from fun w' A c j hj q hr=>by
  have hcl:(colL p j).length=p.a.length:=by unfold colL;rw[List.length_map]
  have h64:∀i,i<(colL p j).length→-9223372036854775808≤(colL p j).getD i 0∧(colL p j).getD i 0≤9223372036854775807:=fun i hi=>by
   rw[hcl]at hi;rw[colL_at hi];exact hok.ia i hi j hj
  have h1:=rdot_any (c:=cY) (cz:=c) (hy.below q) hr (by rw[List.length_map,hcl,hl];exact Nat.le_refl _) (by have:=hok.a;rw[List.length_map,hl];omega) h64;rw[sr0_eq,dotR_rat y (colL p j) few_zero hf (fun z hz=>by
   obtain⟨i,hi,rfl⟩:=List.getElem_of_mem hz;have:=h64 i hi;rwa[List.getD_eq_getElem?_getD,List.getElem?_eq_getElem hi]at this),List.length_map,hcl,hL]at h1
  exact h1)
 rw[hL];have HCO:=ZH hc;have HOF:=ZH (fun w=>rqof_any 0 w (by decide) (by decide));obtain⟨R,hR⟩:∃R,srO (leastO p y c 0 0 (p.lo.zip p.hi))=R:=⟨_,rfl⟩;rw[hR];have HR:Hid (R=srO ((some 0).bind fun s=>leastO p y c 0 s ((p.lo.zip p.hi).drop 0))):=hR.symm;have HF0:Hid (∀s,(some (0:Rat))=some s→Few s):=fun s e=>by cases e;exact few_zero
 have M:=((Mem.start w).new tyR (pgC m p)).newAt (g:=w.heap.size+1) (by simp) tyS z5;clear hp hok hc hy hf hR hl hL;go_enter Tryz.func49,Tryz.ntmps49;go_wp2_with fail;refine(HOF.out _).mono ?_;rintro e w1 ⟨⟨A0,c0,B0,d0,rfl,h0,k0⟩,q1⟩;replace M:=M.below q1;have p1:=(M.k (i:=0) rfl).lt;have HA0:=ZH (h0.below (below_alloc1 w1 (.cells (smC (srO (some 0)) A0 c0 B0 d0) tyS)) ZL);have HB0:=ZH (k0.below (below_alloc1 w1 (.cells (smC (srO (some 0)) A0 c0 B0 d0) tyS)) ZL);replace M:=M.new tyS (smC (srO (some 0)) A0 c0 B0 d0);clear h0 k0 q1;go_upto_region 3 with fail;generalize w1.heap.size=g7 at*;go_loopg [8] p.lo.length (fun k pp wr=>∃(j:Nat)(o:Option Rat)(A:Option Addr)(c':Nat)(B:Option Addr)(d:Nat),k=p.lo.length-j∧j≤p.lo.length∧pp= .int .i64 (j:Nat)∧Hid (R=srO (o.bind fun s=>leastO p y c j s ((p.lo.zip p.hi).drop j)))∧Hid (∀s,o=some s→Few s)∧Mem w wr [(g7,tyS,smC (srO o) A c' B d),(w.heap.size+1,tyS,z5),(w.heap.size,tyR,pgC m p)] [(A,c',(srO o).xs),(B,d,(srO o).ys)])
 case atStart=>exact⟨0,some 0,A0,c0,B0,d0,rfl,Nat.zero_le _,rfl,HR.out,HF0.out,(M.addR HB0.out).addR HA0.out⟩
 case round=>
  clear HR M HA0 HB0 HF0;obtain⟨j,o,A,c',B,d,hk,hj,rfl,HL,HFO,M⟩:=hrel;obtain⟨S,hS⟩:∃S,srO o=S:=⟨_,rfl⟩;rw[hS]at M;obtain⟨n1,xs1,m1,ys1,big1⟩:=S;dsimp only at M;have HS:=ZH hS;clear hS;obtain⟨p0,p1',p2,p3,p4⟩:=(M.k (i:=2) rfl).fiveP;by_cases hlt:j<p.lo.length
  ·have dd1:decide ((j:Int)<(p.lo.length:Int))=true:=decide_eq_true (by omega);have hlth:j<p.hi.length:=by rw[HOK.out.hi];exact hlt
   obtain⟨D,hD⟩:∃D,dcol p y c j=D:=⟨_,rfl⟩;have HFD:Hid (∀s,D=some s→Few s):=fun s e=>dcol_few (c:=c) s (hD.trans e);have HC:Hid (R=srO ((o.bind fun s=>D.bind fun x=>(mulO x ((endZ D (p.lo.getD j 0) (p.hi.getD j 0):Int):Rat)).bind fun m=>addO s m).bind fun t=>leastO p y c (j+1) t ((p.lo.zip p.hi).drop (j+1)))):=by
    show _=_;rw[HL.out,zip_drop hlt hlth,least_next,hD]
   have HD1:=ZH (fun(w':World)(A:Option Addr)(c:Nat)=>HD.out w' A c j hlt);have HCL:=ZH (fun(w':World)(q:Below w.heap.size w w')=>rcolumn_any (w:=w') (j:=j) (HP.out.below q) (fun i hi=>by rw[HOK.out.rows i hi];exact hlt) (by have:=HOK.out.a;omega));have HDC:Hid (D=(dotO 0 y (colL p j)).bind (addC c j)):=hD.symm;have HFE:Hid (∀s,dotO 0 y (colL p j)=some s→Few s):=fun s e=>dot_few _ _ few_zero e;generalize dotO 0 y (colL p j)=E at*;obtain⟨SE,hSE⟩:∃S,srO E=S:=⟨_,rfl⟩;rw[hSE]at HD1;obtain⟨nE,xE,mE,yE,bE⟩:=SE;have HSE:=ZH hSE;clear HL hD hSE;go_wp2_with fail;refine(HCL.out _ M.bel).mono ?_;rintro e w4 ⟨AC,cC,rfl,hcol,q4⟩;replace M:=M.below q4;go_wp2_with fail;refine(HD1.out _ AC cC M.bel hcol).mono ?_;intro e w5 hr5;obtain⟨⟨A5,c5,B5,d5,rfl,h5,k5⟩,q5⟩:=hr5.elim;clear hr5;replace M:=((M.below q5).addR k5).addR h5;have l5:=(M.k (i:=0) rfl).lt;replace M:=M.new tyS #[.bool nE,.slice A5 xE.length c5,.bool mE,.slice B5 yE.length d5,.bool bE];clear hcol q4 h5 k5 q5 p0 p1' p2 p3 p4 HD1 HCL;have hg9:w.heap.size+1<w5.heap.size:=by have:=(M.k (i:=2) rfl).lt;simp at this;omega
   go_upto_if 25 with fail;generalize w5.heap.size=g9 at*;have HM0:=ZH M;go_cut [] (fun wx=>∃A9 c9 B9 d9,Mem w wx [(g9,tyS,smC (srO D) A9 c9 B9 d9),(g7,tyS,#[.bool n1,.slice A xs1.length c',.bool m1,.slice B ys1.length d,.bool big1]),(w.heap.size+1,tyS,z5),(w.heap.size,tyR,pgC m p)] [(A9,c9,(srO D).xs),(B9,d9,(srO D).ys),(A,c',xs1),(B,d,ys1)])
   case first=>
    cases b with
    |false=>
     have hDE:Hid (D=E):=by
      show D=E;rw[HDC.out,HCO.out];cases E<;>rfl
     go_wp2_with fail;go_meet;rw[hDE.out,HSE.out];exact⟨A5,c5,B5,d5,HM0.out⟩
    |true=>
     obtain⟨gc,oc,hA4,c4⟩:=(HP.out.c.below HM0.out.bel) j (by rw[HOK.out.c];exact hlt);replace c4:_=some (Value.int .i64 (p.c.getD j 0)):=c4;have hjc:j<p.c.length:=by rw[HOK.out.c];exact hlt
     have h64:=ZH (HOK.out.ic j hlt);have HAD:Hid (plusR ⟨nE,xE,mE,yE,bE⟩ ⟨sN (p.c.getD j 0),sD (p.c.getD j 0),false,[1]⟩ 1=srO D):=by
      show _=_;rw[←HSE.out,←frq_int,plus_cost HFE.out h64.out.1 h64.out.2,HDC.out,HCO.out];rfl
     have HOZ:=ZH (fun w=>rqof_any (p.c.getD j 0) w h64.out.1 h64.out.2);obtain⟨y0,hy0⟩:∃y0:List Nat,[1]=y0:=⟨_,rfl⟩;rw[hy0]at HAD HOZ;generalize p.c.getD j 0=zc at*;generalize sN zc=zn at*;generalize sD zc=zx at*;have HM1:Hid (Mem w (w5.alloc (.cells #[.bool nE,.slice A5 xE.length c5,.bool mE,.slice B5 yE.length d5,.bool bE] tyS)) [(g9,tyS,#[.bool nE,.slice A5 xE.length c5,.bool mE,.slice B5 yE.length d5,.bool bE]),(g7,tyS,#[.bool n1,.slice A xs1.length c',.bool m1,.slice B ys1.length d,.bool big1]),(w.heap.size+1,tyS,z5),(w.heap.size,tyR,pgC m p)] [(A5,c5,xE),(B5,d5,yE),(A,c',xs1),(B,d,ys1)]):=HM0.out;have q0:=HM1.out.bel;have C4:=Lk.of c4;have P4:Hid (∀w',Mem w w' [(g9,tyS,#[.bool nE,.slice A5 xE.length c5,.bool mE,.slice B5 yE.length d5,.bool bE]),(g7,tyS,#[.bool n1,.slice A xs1.length c',.bool m1,.slice B ys1.length d,.bool big1]),(w.heap.size+1,tyS,z5),(w.heap.size,tyR,pgC m p)] [(A5,c5,xE),(B5,d5,yE),(A,c',xs1),(B,d,ys1)]→w'.cell? ⟨w.heap.size,4,none⟩=some (.slice (some ⟨gc,oc,none⟩) p.c.length m.c.2)):=fun w' M=>by
      rw[←hA4];exact(M.k (i:=3) rfl).fiveP.2.2.2.2
     clear hA4 c4 hy0 M HM0;generalize p.c.length=lc at*;generalize (w5.alloc (.cells #[.bool nE,.slice A5 xE.length c5,.bool mE,.slice B5 yE.length d5,.bool bE] tyS))=W7 at*;have HM2:=ZH HM1.out.rebase;go_upto_region 7 with fail;refine region_gen0 (n:=9) (frame:= ?frame1) (fun L s w'=>(L 0=true→s 0= .agg #[.bool nE,.slice A5 xE.length c5,.bool mE,.slice B5 yE.length d5,.bool bE])∧(L 1=true→s 1= .pointer (some ⟨w.heap.size,4,none⟩))∧(L 2=true→s 2= .slice (some ⟨gc,oc,none⟩) lc m.c.2)∧(L 3=true→s 3= .int .i64 (j:Nat))∧(L 4=true→s 4= .pointer (some ⟨gc,oc+j,none⟩))∧(L 5=true→s 5= .int .i64 zc)∧(L 6=false→(Mem W7 w' [(g9,tyS,#[.bool nE,.slice A5 xE.length c5,.bool mE,.slice B5 yE.length d5,.bool bE]),(g7,tyS,#[.bool n1,.slice A xs1.length c',.bool m1,.slice B ys1.length d,.bool big1]),(w.heap.size+1,tyS,z5),(w.heap.size,tyR,pgC m p)] [(A5,c5,xE),(B5,d5,yE),(A,c',xs1),(B,d,ys1)]))∧(L 6=true→L 7=false→(Mem W7 w' [(g9,tyS,#[.bool nE,.slice A5 xE.length c5,.bool mE,.slice B5 yE.length d5,.bool bE]),(g7,tyS,#[.bool n1,.slice A xs1.length c',.bool m1,.slice B ys1.length d,.bool big1]),(w.heap.size+1,tyS,z5),(w.heap.size,tyR,pgC m p)] [(A5,c5,xE),(B5,d5,yE),(A,c',xs1),(B,d,ys1)]∧∃A9 c9 B9 d9,s 6=rv zn A9 zx.length c9 false B9 y0.length d9∧Rd w' A9 c9 zx∧Rd w' B9 d9 y0))∧(L 7=true→L 8=false→(∃A9 c9 B9 d9,s 7= .agg (smC (srO D) A9 c9 B9 d9)∧Mem W7 w' [(g9,tyS,#[.bool nE,.slice A5 xE.length c5,.bool mE,.slice B5 yE.length d5,.bool bE]),(g7,tyS,#[.bool n1,.slice A xs1.length c',.bool m1,.slice B ys1.length d,.bool big1]),(w.heap.size+1,tyS,z5),(w.heap.size,tyR,pgC m p)] [(A9,c9,(srO D).xs),(B9,d9,(srO D).ys),(A5,c5,xE),(B5,d5,yE),(A,c',xs1),(B,d,ys1)]))∧(L 8=true→(∃A9 c9 B9 d9,Mem w w' [(g9,tyS,smC (srO D) A9 c9 B9 d9),(g7,tyS,#[.bool n1,.slice A xs1.length c',.bool m1,.slice B ys1.length d,.bool big1]),(w.heap.size+1,tyS,z5),(w.heap.size,tyR,pgC m p)] [(A9,c9,(srO D).xs),(B9,d9,(srO D).ys),(A,c',xs1),(B,d,ys1)]))) (by kernel_rfl) (by kernel_rfl) (by kernel_rfl) rfl ?_ ?_ ?_ ?_
     case refine_1=>exact⟨fun h=>no_f h,fun h=>no_f h,fun h=>no_f h,fun h=>no_f h,fun h=>no_f h,fun h=>no_f h,fun _=>HM2.out.drew,fun h=>no_f h,fun h=>no_f h,fun h=>no_f h⟩
     case refine_2=>
      intro s;simp only[fr,Act.put,zA,zB,zC,zD,zE,zF,Nat.reduceAdd];rfl
     case refine_3=>
      refine SC 0 1 rfl ?_ (SC 1 2 rfl ?_ (SC 2 3 rfl ?_ (SC 3 4 rfl ?_ (SC 4 5 rfl ?_ (SC 5 6 rfl ?_ (SC 6 7 rfl ?_ (SC 7 8 rfl ?_ (SC 8 9 rfl ?_ Steps.nil))))))));all_goals (intro L s w9 hN hU hi hC hS K hK;dsimp only at hK⊢;simp only[Act.put,zD,zE,zF]at hK;obtain⟨h_0,h_1,h_2,h_3,h_4,h_5,c_0,c_1,c_2,c_3⟩:=hS)
      ·refine ite_of rfl ?_;have hE:Mem W7 w9 [(g9,tyS,#[.bool nE,.slice A5 xE.length c5,.bool mE,.slice B5 yE.length d5,.bool bE]),(g7,tyS,#[.bool n1,.slice A xs1.length c',.bool m1,.slice B ys1.length d,.bool big1]),(w.heap.size+1,tyS,z5),(w.heap.size,tyR,pgC m p)] [(A5,c5,xE),(B5,d5,yE),(A,c',xs1),(B,d,ys1)]:=(match hL0:L 6 with|false=>(c_0 hL0)|true=>(c_1 hL0 (hU.out 7 _ rfl rfl)).1);obtain⟨u0,u1,u2,u3,u4⟩:=(hE.k (i:=0) rfl).fiveP;go_simp;refine hK.out _ _ ?_;exact⟨fun _=>rfl,h_1,h_2,h_3,h_4,h_5,c_0,c_1,c_2,c_3⟩
      ·refine ite_of rfl ?_;go_simp;refine hK.out _ _ ?_;exact⟨h_0,fun _=>rfl,h_2,h_3,h_4,h_5,c_0,c_1,c_2,c_3⟩
      ·have e_1:=h_1 (hN.out 1 rfl);simp only[e_1]at hK⊢;refine ite_of rfl ?_;have hE:Mem W7 w9 [(g9,tyS,#[.bool nE,.slice A5 xE.length c5,.bool mE,.slice B5 yE.length d5,.bool bE]),(g7,tyS,#[.bool n1,.slice A xs1.length c',.bool m1,.slice B ys1.length d,.bool big1]),(w.heap.size+1,tyS,z5),(w.heap.size,tyR,pgC m p)] [(A5,c5,xE),(B5,d5,yE),(A,c',xs1),(B,d,ys1)]:=(c_0 (Shut.no hC 6 5 rfl rfl (Shut.no hC 5 4 rfl rfl (hU.out 4 _ rfl rfl))));have u0:=P4.out _ (Mem.on hE q0);go_simp;refine hK.out _ _ ?_;exact⟨h_0,h_1,fun _=>rfl,h_3,h_4,h_5,c_0,c_1,c_2,c_3⟩
      ·refine ite_of rfl ?_;go_simp;refine hK.out _ _ ?_;exact⟨h_0,h_1,h_2,fun _=>rfl,h_4,h_5,c_0,c_1,c_2,c_3⟩
      ·have e_2:=h_2 (hN.out 2 rfl);simp only[e_2]at hK⊢;have e_3:=h_3 (hN.out 3 rfl);simp only[e_3]at hK⊢;refine ite_of rfl ?_;go_simp;refine hK.out _ _ ?_;exact⟨h_0,h_1,h_2,h_3,fun _=>rfl,h_5,c_0,c_1,c_2,c_3⟩
      ·have e_4:=h_4 (hN.out 4 rfl);simp only[e_4]at hK⊢;refine ite_of rfl ?_;have hE:Mem W7 w9 [(g9,tyS,#[.bool nE,.slice A5 xE.length c5,.bool mE,.slice B5 yE.length d5,.bool bE]),(g7,tyS,#[.bool n1,.slice A xs1.length c',.bool m1,.slice B ys1.length d,.bool big1]),(w.heap.size+1,tyS,z5),(w.heap.size,tyR,pgC m p)] [(A5,c5,xE),(B5,d5,yE),(A,c',xs1),(B,d,ys1)]:=(c_0 (hU.out 6 _ rfl rfl));have u0:=C4 _ hE.bel;go_simp;refine hK.out _ _ ?_;exact⟨h_0,h_1,h_2,h_3,h_4,fun _=>rfl,c_0,c_1,c_2,c_3⟩
      ·have e_5:=h_5 (hN.out 5 rfl);simp only[e_5]at hK⊢;refine ite_of rfl ?_;have hP:=c_0 hi.out;go_simp;go_at_call 68;refine(HOZ.out _).mono ?_;rintro e9 w10 ⟨⟨A9,c9,B9,d9,rfl,h9,k9⟩,q⟩;exact hK.out _ _ ⟨h_0,h_1,h_2,h_3,h_4,h_5,fun h=>no_t h,fun _ _=>⟨hP.below q,A9,c9,B9,d9,rfl,h9,k9⟩,fun h=>no_f (Eq.trans (Eq.symm (hU.out 7 _ rfl rfl)) h),fun h=>no_f (Eq.trans (Eq.symm (Shut.no hC 8 7 rfl rfl (hU.out 7 _ rfl rfl))) h)⟩
      ·have e_0:=h_0 (hN.out 0 rfl);simp only[e_0]at hK⊢;refine ite_of rfl ?_;have hP:=c_1 (hN.out 6 rfl) hi.out;obtain⟨hP0,A9,c9,B9,d9,e6,h9,k9⟩:=hP;simp only[e6]at hK⊢;go_simp;go_at_call 70;have hh:=rplus_any (s:=⟨nE,xE,mE,yE,bE⟩) (x:=⟨zn,zx,false,y0⟩) (z:=1) (by decide) (by decide) (hP0.r (i:=0) rfl) (hP0.r (i:=1) rfl) h9 k9;rw[HAD.out]at hh;refine hh.mono ?_;rintro e9 w10 ⟨⟨A8,c8,B8,d8,rfl,h8,k8⟩,q⟩;exact hK.out _ _ ⟨h_0,h_1,h_2,h_3,h_4,h_5,fun h=>no_f (Eq.trans (Eq.symm h) (hN.out 6 rfl)),fun _ h=>no_t h,fun _ _=>⟨A8,c8,B8,d8,rfl,((hP0.below q).addR k8).addR h8⟩,fun h=>no_f (Eq.trans (Eq.symm (hU.out 8 _ rfl rfl)) h)⟩
      ·refine ite_of rfl ?_;have hP:=c_2 (hN.out 7 rfl) hi.out;obtain⟨A9,c9,B9,d9,e7,hM0⟩:=hP;have hM:=Mem.on hM0 q0;simp only[e7]at hK⊢;have b9:=hM.k (i:=0) rfl;refine wp_store_row _ _ _ rfl g9 _ rfl rfl _ _ b9 info_sum rfl (by rw[←Array.all_toList];rfl) ?_;exact hK.out undef _ ⟨h_0,h_1,h_2,h_3,h_4,h_5,fun h=>no_f (Eq.trans (Eq.symm h) (hC.out 7 _ rfl (hN.out 7 rfl) 6 rfl)),fun _ h=>no_f (Eq.trans (Eq.symm h) (hN.out 7 rfl)),fun _ h=>no_t h,fun _=>⟨A9,c9,B9,d9,(hM.row (by omega) (by simp;omega) rfl (b9.row _) (setRow_grown _ _ _)).sub (fun k hk=>hk) (by simp)⟩⟩
     intro L s w9 hall hS;obtain⟨h_0,h_1,h_2,h_3,h_4,h_5,c_0,c_1,c_2,c_3⟩:=hS;have hPm:=c_3 (hall 8 (by decide));clear hall h_0 h_1 h_2 h_3 h_4 h_5 c_0 c_1 c_2 c_3;have HPM:=ZH hPm;clear hPm;go_wp2_with fail;go_meet;exact HPM.out
   case rest=>
    obtain⟨A9,c9,B9,d9,M⟩:=hcut;clear HM0 HDC HSE HFE HCO;obtain⟨SD,hSD⟩:∃S,srO D=S:=⟨_,rfl⟩;rw[hSD]at M;obtain⟨nD,xD,mD,yD,bD⟩:=SD;dsimp only[smC]at M;have HSD:=ZH hSD;clear hSD;obtain⟨zz,hzz⟩:∃zz:Int,(if nD=true then p.hi.getD j 0 else p.lo.getD j 0)=zz:=⟨_,rfl⟩;have HZ:=ZH hzz;have HZE:Hid (endZ D (p.lo.getD j 0) (p.hi.getD j 0)=zz):=by
     show _=_;unfold endZ;rw[HSD.out];exact hzz
    have HZ64:Hid (-9223372036854775808≤zz∧zz≤9223372036854775807):=by
     show _∧_;rw[←hzz];split
     ·exact HOK.out.ihi j hlt
     ·exact HOK.out.ilo j hlt
    rw[HZE.out]at HC;clear HZE hzz;obtain⟨gl,ol,hA0,k0⟩:=(HP.out.lo.below M.bel) j hlt;replace k0:wc.cell? ⟨gl,ol+j,none⟩=some (.int .i64 (p.lo.getD j 0)):=k0;obtain⟨gh,oh,hA1,k1⟩:=(HP.out.hi.below M.bel) j hlth;replace k1:wc.cell? ⟨gh,oh+j,none⟩=some (.int .i64 (p.hi.getD j 0)):=k1;obtain⟨p0,p1',p2,p3,p4⟩:=(M.k (i:=3) rfl).fiveP;rw[hA0]at p0;rw[hA1]at p1';obtain⟨v1,v2,v3,v4,v5⟩:=(M.k (i:=0) rfl).fiveP;have K1:=Lk.of k1;have P1:=Lk.of p1';clear hA0 hA1 k1 p1' p2 p3 p4;generalize p.lo.getD j 0=zl at*;generalize p.hi.getD j 0=zh at*;go_wp2_with fail;refine(rbelow_any (n:=nD) (m:=mD)).mono ?_;rintro e w8 ⟨rfl,q8⟩;replace M:=M.below q8;have k1:=K1 _ q8;have p1':=P1 _ q8;clear K1 P1 k0 p0 v1 v2 v3 v4 v5 q8;go_upto_if 41 with fail;go_cut [10] (fun s10 wx=>s10= .int .i64 zz∧wx=w8)
    case first=>
     cases nD with
     |true=>
      go_wp2_with fail;go_meet;exact⟨by rw[←HZ.out];rfl,rfl⟩
     |false=>
      go_wp2_with fail;go_meet;exact⟨by rw[←HZ.out];rfl,rfl⟩
    case rest=>
     obtain⟨rfl,rfl⟩:=hcut;obtain⟨N,hN⟩:∃N,(o.bind fun s=>D.bind fun x=>(mulO x (zz:Rat)).bind fun m=>addO s m)=N:=⟨_,rfl⟩;obtain⟨S2,hS2⟩:∃S2,plusR ⟨n1,xs1,m1,ys1,big1⟩ ⟨nD,xD,mD,yD⟩ zz=S2:=⟨_,rfl⟩;rw[hN]at HC;have HN:Hid (S2=srO N):=by
      show _=_;rw[←hS2,←hN,←HS.out,←plus_srO HFO.out HFD.out HZ64.out.1 HZ64.out.2,HSD.out];rfl
     have HFN:Hid (∀s,N=some s→Few s):=fun s e=>bind_few (fun s q h=>bind_few (fun x q h=>bind_few (fun m q h=>addO_few h) q h) q h) s (hN.trans e);have HBD:Hid (S2.big=false→bD=false):=fun e=>by
      rw[HN.out,srO_big_iff]at e;have e2:bD=(srO D).big:=by rw[HSD.out]
      rw[e2,srO_big_iff];cases D with
      |some x=>rfl
      |none=>
       rw[←hN]at e;cases o<;>cases e
     have HS2:=ZH hS2;obtain⟨n2,xs2,m2,ys2,b2⟩:=S2;clear hS2 hN HS HSD HFO HFD HZ;obtain⟨v1,v2,v3,v4,v5⟩:=(M.k (i:=1) rfl).fiveP;obtain⟨x1,x2,x3,x4,x5⟩:=(M.k (i:=0) rfl).fiveP;go_wp2_with fail;have hh:=rplus_any (s:=⟨n1,xs1,m1,ys1,big1⟩) (x:=⟨nD,xD,mD,yD⟩) HZ64.out.1 HZ64.out.2 (M.r (i:=2) rfl) (M.r (i:=3) rfl) (M.r (i:=0) rfl) (M.r (i:=1) rfl);rw[HS2.out]at hh;refine hh.mono ?_;intro e w6 hr6;obtain⟨⟨A6,c6,B6,d6,rfl,h6,k6⟩,q6⟩:=hr6.elim;replace M:=((M.below q6).addR k6).addR h6;clear hr6 hh h6 k6 q6 v1 v2 v3 v4 v5 x1 x2 x3 x4 x5 HS2 HZ64;cases b2 with
     |true=>
      go_wp2_with ((with_reducible refine st_ ?_);refine wp_put2 _ _ (M.k (i:=1) rfl) rfl rfl rfl rfl info_sum rfl rfl ?_;intro w4 b4 g4;replace M:=M.rowAt (i:=1) rfl (by omega) (by simp<;>omega) rfl b4 g4;obtain⟨f1,f2,f3,f4,f5⟩:=(M.k (i:=1) rfl).fiveP;have fz:=(M.k (i:=1) rfl).frozen 4;obtain⟨_,_,_,_,y5⟩:=(M.k (i:=0) rfl).fiveP);have M9:=M.rowAt (i:=1) rfl (by omega) (by simp<;>omega) rfl ((M.k (i:=1) rfl).set_ 4 (.bool true)) (grown_setCell _ _ _ _);have HM9:=ZH M9;clear M9 M y5 f1 f2 f3 f4 f5 fz b4 g4;have hn64:p.lo.length≤64:=HOK.out.n;go_roundg (p.lo.length-(j+1))
      case measure=>omega
      case rel=>exact⟨j+1,N,A6,c6,B6,d6,rfl,by omega,by rw[IntWalk.wrap64_in _ ⟨by omega,by omega⟩];rfl,HC.out,HFN.out,by rw[←HN.out];exact HM9.out.sub (by simp) (by simp)⟩
     |false=>
      have hbd:bD=false:=HBD.out rfl;subst hbd;go_wp2_with ((with_reducible refine st_ ?_);refine wp_put2 _ _ (M.k (i:=1) rfl) rfl rfl rfl rfl info_sum rfl rfl ?_;intro w4 b4 g4;replace M:=M.rowAt (i:=1) rfl (by omega) (by simp<;>omega) rfl b4 g4;obtain⟨f1,f2,f3,f4,f5⟩:=(M.k (i:=1) rfl).fiveP;have fz:=(M.k (i:=1) rfl).frozen 4;obtain⟨_,_,_,_,y5⟩:=(M.k (i:=0) rfl).fiveP);have M9:=M.rowAt (i:=1) rfl (by omega) (by simp<;>omega) rfl ((M.k (i:=1) rfl).set_ 4 (.bool false)) (grown_setCell _ _ _ _);have HM9:=ZH M9;clear M9 M y5 f1 f2 f3 f4 f5 fz b4 g4;have hn64:p.lo.length≤64:=HOK.out.n;go_roundg (p.lo.length-(j+1))
      case measure=>omega
      case rel=>exact⟨j+1,N,A6,c6,B6,d6,rfl,by omega,by rw[IntWalk.wrap64_in _ ⟨by omega,by omega⟩];rfl,HC.out,HFN.out,by rw[←HN.out];exact HM9.out.sub (by simp) (by simp)⟩
  ·have dd1:decide ((j:Int)<(p.lo.length:Int))=false:=decide_eq_false (by omega);have HR2:Hid ((⟨n1,xs1,m1,ys1,big1⟩:Sr)=R):=by
    show _=_;have e:(p.lo.zip p.hi).drop j=[]:=List.drop_eq_nil_of_le (by rw[List.length_zip];omega);rw[HL.out,←HS.out,e];cases o<;>rfl
   clear HL;obtain⟨v1,v2,v3,v4,v5⟩:=(M.k (i:=0) rfl).fiveP;go_wp2_with ((with_reducible refine st_ ?_);refine wp_put2 _ _ (M.k (i:=1) rfl) rfl rfl rfl rfl info_sum rfl rfl ?_;intro w4 b4 g4;replace M:=M.rowAt (i:=1) rfl (by omega) (by simp<;>omega) rfl b4 g4;obtain⟨f1,f2,f3,f4,f5⟩:=(M.k (i:=1) rfl).fiveP);refine bodyPost_ret (v:= .agg #[.bool n1,.slice A xs1.length c',.bool m1,.slice B ys1.length d,.bool big1]) (by simp[results,Tryz.results49,go_sem,f1,f2,f3,f4,f5]) rfl ⟨?_,M.bel⟩;rw[←HR2.out];exact⟨A,c',B,d,rfl,M.r (i:=0) rfl,M.r (i:=1) rfl⟩
end Go.Proofs.YtpnmcacndjkfaaaGreat

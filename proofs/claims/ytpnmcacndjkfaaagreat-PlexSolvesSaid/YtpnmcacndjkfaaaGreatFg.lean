import Derived.Test.YtpnmcacndjkfaaaGreatEk
set_option maxHeartbeats 40000000
set_option maxRecDepth 100000
set_option linter.unusedSimpArgs false
set_option linter.unusedVariables false
namespace Go.Proofs.YtpnmcacndjkfaaaGreat
open Go.RowKit Num
theorem rcmp_rat {w:World}{A B A' B':Option Addr}{c d c' d':Nat}{p q:Rat}(h:QR w A c B d p)(h':QR w A' c' B' d' q):Calls Tryz.prog 67 #[qv p A c B d,qv q A' c' B' d'] w fun e w'=>e= .returned (.tuple #[.int .i64 (cmpQ p q),.int .i64 0])∧Below w.heap.size w w':=by
 have:=rqcmp_any (n:=sN p.num) (m:=false) (n':=sN q.num) (m':=false) h.num h.den h'.num h'.den;unfold qcmpR at this;rw[qright_rat h.few,qright_rat h'.few,if_pos (by decide),toQ_rat,toQ_rat]at this;exact this
theorem rofq_any {z:Int}{w:World}(hz: -9223372036854775808≤z)(hz':z≤9223372036854775807):Calls Tryz.prog 68 #[.int .i64 z] w fun e w'=>Below w.heap.size w w'∧∃A c B d,e= .returned (qv (z:Rat) A c B d)∧QR w' A c B d (z:Rat):=by
 refine(rqof_any z w hz hz').mono ?_;rintro e w1 ⟨⟨A,c,B,d,rfl,h1,h2⟩,q⟩;have hd:=den_int z;refine⟨q,A,c,B,d,?_,⟨h1,?_,few_i64 hz hz'⟩⟩
 ·show _=Ending.returned (rv (sN (z:Rat).num) A (sD (z:Rat).num).length c false B (dig (z:Rat).den).length d);rw[hd];rfl
 ·rw[hd];exact h2
theorem rcmp_tup {w0:World}{q:Rat}{A B:Option Addr}{c d:Nat}{z:Rat}{k:Int}(hk:cmpQ q z=k)(hq:QR w0 A c B d q):∀{w':World}{q':Rat}{A' B':Option Addr}{c' d':Nat},Below w0.heap.size w0 w'→some z=some q'→QR w' A' c' B' d' q'→Calls Tryz.prog 67 #[qv q A c B d,qv q' A' c' B' d'] w' fun e w2=>e= .returned (.tuple #[.int .i64 k,.int .i64 0])∧Below w'.heap.size w' w2:=by
 intro w' q' A' B' c' d' hb h hq';cases h;subst hk;exact rcmp_rat (hq.below hb) hq'
theorem ratmost_any {w:World}{q:Rat}{z:Int}{A B:Option Addr}{c d:Nat}(hz: -9223372036854775808≤z∧z≤9223372036854775807)(h:QR w A c B d q)(hle:q≤((z:Int):Rat)):Calls Tryz.prog 69 #[qv q A c B d,.int .i64 z] w fun e w'=>e= .returned (.bool true)∧Below w.heap.size w w':=by
 have HZ:=ZH hz;have hcl:=cmpQ_le hle;obtain⟨kc,hkc⟩:∃kc,cmpQ q ((z:Int):Rat)=kc:=⟨_,rfl⟩;rw[hkc]at hcl;have HKC:=ZH hkc;have d1:decide (kc≤0)=true:=decide_eq_true hcl;have M:=(Mem.start w).new 45 #[.bool (sN q.num),.slice A (sD q.num).length c,.bool false,.slice B (dig q.den).length d];have HQ:=ZH (h.below M.bel);have HB:=ZH M.bel;clear hz h hle hcl hkc;go_enter Tryz.func69,Tryz.ntmps69;go_upto_region 1 with fail;have MR:=M.rebase;clear M;refine region_st (n:=9) (frame:= ?frame1) (fun jK=>[.val (.fix (.agg #[.bool (sN q.num),.slice A (sD q.num).length c,.bool false,.slice B (dig q.den).length d])),.val (.fix (.int .i64 z)),.val (Sh.rq (some (z:Rat))),.val (.fix (.tuple #[.int .i64 kc,.int .i64 0])),.val (.fix (.tuple #[.int .i64 kc,.int .i64 0])),.val (.fix (.int .i64 kc)),.val (.fix (.int .i64 0)),.val (.fix (.int .i64 kc)),.val (.fix (.int .i64 0))].getD jK .none) [] (by kernel_rfl) (by kernel_rfl) (by kernel_rfl) rfl MR (fun _ h=>by cases h) (fun _ h=>by cases h) ?_ ?_ ?_
 case refine_1=>
  intro s;simp only[fr,Act.put,zA,zB,zC,zD,zE,zF,Nat.reduceAdd];rfl
 case refine_2=>
  refine SC 0 1 rfl ?_ (SC 1 2 rfl ?_ (SC 2 3 rfl ?_ (SC 3 4 rfl ?_ (SC 4 5 rfl ?_ (SC 5 6 rfl ?_ (SC 6 7 rfl ?_ (SC 7 8 rfl ?_ (SC 8 9 rfl ?_ Steps.nil))))))));all_goals (intro L s w9 hN hU hi hS K hK;dsimp only at hK⊢;simp only[Act.put,zD,zE,zF]at hK)
  ·obtain⟨u1,u2,u3,u4⟩:=(hS.mem.k (i:=0) rfl).four;go_simp;exact hS.o hK
  ·go_simp;exact hS.o hK
  ·have e1:=hS.f hN 1;simp only[e1]at hK⊢;go_simp;go_at_call 68;refine(rofq_any HZ.out.1 HZ.out.2).mono ?_;rintro e9 w10 ⟨q,A9,c9,B9,d9,rfl,hq9⟩;exact hK.out _ _ (hS.val rfl (noStore_of rfl) q ⟨_,A9,c9,B9,d9,rfl,rfl,hq9⟩)
  ·have e0:=hS.f hN 0;simp only[e0]at hK⊢;obtain⟨q2,A2,c2,B2,d2,o2,e2,h2⟩:=hS.val_at 2 rfl (by decide) (hN.out 2 rfl);simp only[e2]at hK⊢;go_simp;go_at_call 67;refine(rcmp_tup HKC.out HQ.out hS.mem.bel o2 h2).mono ?_;rintro e9 w10 ⟨rfl,q⟩;exact hK.out _ _ (hS.val rfl (noStore_of rfl) q rfl)
  ·have e3:=hS.f hN 3;simp only[e3]at hK⊢;go_simp;exact hS.o hK
  ·have e4:=hS.f hN 4;simp only[e4]at hK⊢;go_simp;exact hS.o hK
  ·have e4:=hS.f hN 4;simp only[e4]at hK⊢;go_simp;exact hS.o hK
  ·have e5:=hS.f hN 5;simp only[e5]at hK⊢;go_simp;exact hS.o hK
  ·have e6:=hS.f hN 6;simp only[e6]at hK⊢;go_simp;exact hS.o hK
 intro L s w9 hall hS;have e7:s 7= .int .i64 kc:=hS.fx 7 rfl rfl (hall 7 (by decide));have e8:s 8= .int .i64 0:=hS.fx 8 rfl rfl (hall 8 (by decide));have q9:=hS.mem.bel;simp only[e7,e8];have M9:=ZH (below_trans HB.out q9);clear hS hall e7 e8 q9 MR;go_wp2_with fail;exact bodyPost_ret (v:= .bool true) (by simp[results,Tryz.results69,go_sem]) rfl ⟨rfl,M9.out⟩
theorem atmost_at {w0:World}{q:Rat}{z:Int}{A B:Option Addr}{c d:Nat}(hz: -9223372036854775808≤z∧z≤9223372036854775807)(h:QR w0 A c B d q)(hle:q≤((z:Int):Rat)){w:World}(hb:Below w0.heap.size w0 w):Calls Tryz.prog 69 #[qv q A c B d,.int .i64 z] w fun e w'=>e= .returned (.bool true)∧Below w.heap.size w w':=ratmost_any hz (h.below hb) hle
theorem rdot_row {w:World}{x:List Rat}{AX Z:Option Addr}{cX cz n:Nat}{l:List Int}(hx:GRow w AX (x.map frq))(hf:∀q∈x,Few q)(hz:IRow w Z l)(hl:x.length≤l.length)(hs:x.length≤1000)(hn:n=x.length)(h64:∀j,j<l.length→-9223372036854775808≤l.getD j 0∧l.getD j 0≤9223372036854775807):Calls Tryz.prog 36 #[.slice AX n cX,.slice Z l.length cz] w fun e w2=>RetSm w w2 e (srO (dotO 0 x l)):=by
 have h1:=rdot_any (c:=cX) (cz:=cz) hx hz (by rw[List.length_map];exact hl) (by rw[List.length_map];omega) h64;rw[sr0_eq,dotR_rat x l few_zero hf (fun z hz=>by
  obtain⟨i,hi,rfl⟩:=List.getElem_of_mem hz;have:=h64 i hi;rwa[List.getD_eq_getElem?_getD,List.getElem?_eq_getElem hi]at this),List.length_map,←hn]at h1
 exact h1
theorem rfit_good {w:World}{m:Pa}{p:Pg}{x:List Rat}{AX:Option Addr}{cX n:Nat}(hn:n=x.length)(hp:PgAt w m p)(hok:PgOk p)(hx:QRow w AX x)(hfx:∀q∈x,Few q)(hf:FitP p x):Calls Tryz.prog 35 #[.agg (pgC m p),.slice AX n cX] w fun e w'=>e= .returned (.bool true)∧Below w.heap.size w w':=by
 subst hn;have HP:=ZH hp;have HOK:=ZH hok;have HX:=ZH hx;have HF:=ZH hf;have HFX:=ZH hfx;have hn64:p.lo.length≤64:=hok.n;have ha160:p.a.length≤160:=hok.a;have hl:=hf.len;have d0:((x.length:Int) !=(p.lo.length:Int))=false:=by rw[hl];simp
 have HL:=ZH hl;have hx64:x.length≤64:=by omega
 have M:=(Mem.start w).new tyR (pgC m p);obtain⟨p0,p1,p2,p3,p4⟩:=(M.k (i:=0) rfl).fiveP;clear hp hok hx hf hl hfx;go_enter Tryz.func35,Tryz.ntmps35;go_wp2_with fail;go_loopg [6,7,5] x.length (fun k _ _ pp wr=>∃j,k=x.length-j∧j≤x.length∧pp= .int .i64 (j:Nat)∧Mem w wr [(w.heap.size,tyR,pgC m p)] [])
 case atStart=>exact⟨0,rfl,Nat.zero_le _,rfl,M⟩
 case round=>
  clear M p0 p1 p2 p3 p4;obtain⟨j,hk,hj,rfl,M⟩:=hrel;obtain⟨p0,p1,p2,p3,p4⟩:=(M.k (i:=0) rfl).fiveP;have hgw:=(M.k (i:=0) rfl).lt;by_cases hlt:j<x.length
  ·have d1:decide ((j:Int)<(x.length:Int))=true:=decide_eq_true (by omega);have hltl:j<p.lo.length:=by have:=HL.out;omega
   have hlth:j<p.hi.length:=by rw[HOK.out.hi];exact hltl
   have I0:=ZH (HOK.out.ilo j hltl);have I1:=ZH (HOK.out.ihi j hltl);obtain⟨gl,ol,hA0,c0⟩:=(HP.out.lo.below M.bel) j hltl;obtain⟨gh,oh,hA1,c1⟩:=(HP.out.hi.below M.bel) j hlth;replace c0:wr.cell? ⟨gl,ol+j,none⟩=some (.int .i64 (p.lo.getD j 0)):=c0;replace c1:wr.cell? ⟨gh,oh+j,none⟩=some (.int .i64 (p.hi.getD j 0)):=c1;rw[hA0]at p0;rw[hA1]at p1;obtain⟨gx,ox,rfl,X,cx,Y,cy,a1,a2,a3,a4,hq⟩:=(HX.out.below M.bel) j hlt;have e0:=cmp_ge (HF.out.lo j hltl);have hle:=HF.out.hi j hltl;obtain⟨k0,hk0⟩:∃k,cmpQ (x.getD j 0) ((p.lo.getD j 0:Int):Rat)=k:=⟨_,rfl⟩;rw[hk0]at e0;have HK0:=ZH hk0;have HLE:=ZH hle;have HQ:=ZH hq;have P0:=Lk.of p0;have P1:=Lk.of p1;have C0:=Lk.of c0;have C1:=Lk.of c1;have X1:=Lk.of a1;have X2:=Lk.of a2;have X3:=Lk.of a3;have X4:=Lk.of a4;generalize p.lo.getD j 0=zl at*;generalize p.hi.getD j 0=zh at*;generalize x.getD j 0=xq at*;have MR:=M.rebase;clear hA0 hA1 c0 c1 p0 p1 p2 p3 p4 hk0 hle hq a1 a2 a3 a4;go_upto_region 6 with fail;refine region_st (n:=16) (frame:= ?frame2) (fun jK=>[.val (.fix (.slice (some ⟨gx,ox,none⟩) x.length cX)),.val (.fix (.int .i64 (j:Nat))),.val (.fix (.pointer (some ⟨gx,ox+j*4,none⟩))),.val (.fix (qv xq X cx Y cy)),.val (.fix (.pointer (some ⟨w.heap.size,0,none⟩))),.val (.fix (.slice (some ⟨gl,ol,none⟩) p.lo.length m.lo.2)),.val (.fix (.int .i64 (j:Nat))),.val (.fix (.pointer (some ⟨gl,ol+j,none⟩))),.val (.fix (.int .i64 zl)),.val (Sh.rq (some (zl:Rat))),.val (.fix (.tuple #[.int .i64 k0,.int .i64 0])),.val (.fix (.tuple #[.int .i64 k0,.int .i64 0])),.val (.fix (.int .i64 k0)),.val (.fix (.int .i64 0)),.val (.fix (.int .i64 k0)),.val (.fix (.int .i64 0))].getD jK .none) [] (by kernel_rfl) (by kernel_rfl) (by kernel_rfl) rfl MR (fun _ h=>by cases h) (fun _ h=>by cases h) ?_ ?_ ?_
   case refine_1=>
    intro s;simp only[fr,Act.put,zA,zB,zC,zD,zE,zF,Nat.reduceAdd];rfl
   case refine_2=>
    refine SC 0 1 rfl ?_ (SC 1 2 rfl ?_ (SC 2 3 rfl ?_ (SC 3 4 rfl ?_ (SC 4 5 rfl ?_ (SC 5 6 rfl ?_ (SC 6 7 rfl ?_ (SC 7 8 rfl ?_ (SC 8 9 rfl ?_ (SC 9 10 rfl ?_ (SC 10 11 rfl ?_ (SC 11 12 rfl ?_ (SC 12 13 rfl ?_ (SC 13 14 rfl ?_ (SC 14 15 rfl ?_ (SC 15 16 rfl ?_ Steps.nil)))))))))))))));all_goals (intro L s w9 hN hU hi hS K hK;dsimp only at hK⊢;simp only[Act.put,zD,zE,zF]at hK)
    ·go_simp;exact hS.o hK
    ·go_simp;exact hS.o hK
    ·have e0:=hS.f hN 0;simp only[e0]at hK⊢;have e1:=hS.f hN 1;simp only[e1]at hK⊢;go_simp;exact hS.o hK
    ·have e2:=hS.f hN 2;simp only[e2]at hK⊢;have u1:=X1 _ hS.mem.bel;have u2:=X2 _ hS.mem.bel;have u3:=X3 _ hS.mem.bel;have u4:=X4 _ hS.mem.bel;go_simp;exact hS.o hK
    ·go_simp;exact hS.o hK
    ·have e4:=hS.f hN 4;simp only[e4]at hK⊢;have u0:=P0 _ hS.mem.bel;go_simp;exact hS.o hK
    ·go_simp;exact hS.o hK
    ·have e5:=hS.f hN 5;simp only[e5]at hK⊢;have e6:=hS.f hN 6;simp only[e6]at hK⊢;go_simp;exact hS.o hK
    ·have e7:=hS.f hN 7;simp only[e7]at hK⊢;have u0:=C0 _ hS.mem.bel;go_simp;exact hS.o hK
    ·have e8:=hS.f hN 8;simp only[e8]at hK⊢;go_simp;go_at_call 68;refine(rofq_any I0.out.1 I0.out.2).mono ?_;rintro e9 w10 ⟨q,A9,c9,B9,d9,rfl,hq9⟩;exact hK.out _ _ (hS.val rfl (noStore_of rfl) q ⟨_,A9,c9,B9,d9,rfl,rfl,hq9⟩)
    ·have e3:=hS.f hN 3;simp only[e3]at hK⊢;obtain⟨q9,A9,c9,B9,d9,o9,e9,h9⟩:=hS.val_at 9 rfl (by decide) (hN.out 9 rfl);simp only[e9]at hK⊢;go_simp;go_at_call 67;refine(rcmp_tup HK0.out HQ.out hS.mem.bel o9 h9).mono ?_;rintro e9 w10 ⟨rfl,q⟩;exact hK.out _ _ (hS.val rfl (noStore_of rfl) q rfl)
    ·have e10:=hS.f hN 10;simp only[e10]at hK⊢;go_simp;exact hS.o hK
    ·have e11:=hS.f hN 11;simp only[e11]at hK⊢;go_simp;exact hS.o hK
    ·have e11:=hS.f hN 11;simp only[e11]at hK⊢;go_simp;exact hS.o hK
    ·have e12:=hS.f hN 12;simp only[e12]at hK⊢;go_simp;exact hS.o hK
    ·have e13:=hS.f hN 13;simp only[e13]at hK⊢;go_simp;exact hS.o hK
   intro L s w9 hall hS;have e7:s 14= .int .i64 k0:=hS.fx 14 rfl rfl (hall 14 (by decide));have e8:s 15= .int .i64 0:=hS.fx 15 rfl rfl (hall 15 (by decide));have q9:=hS.mem.bel;simp only[e7,e8];replace M:=M.below q9;have HQ5:=ZH (HQ.out.below q9);have P1':=Lk.of (P1 _ q9);have C1':=Lk.of (C1 _ q9);have X1':=Lk.of (X1 _ q9);have X2':=Lk.of (X2 _ q9);have X3':=Lk.of (X3 _ q9);have X4':=Lk.of (X4 _ q9);clear hS hall e7 e8 q9 MR P0 P1 C0 C1 X1 X2 X3 X4 HQ;have MR:=M.rebase;go_upto_region 7 with fail;refine region_st (n:=19) (frame:= ?frame3) (fun jK=>[.val (.fix (.int .i64 0)),.val (.fix (.bool false)),.val (.fix (.bool false)),.val (.fix (.int .i64 k0)),.val (.fix (.bool false)),.val (.fix (.bool false)),.val (.fix (.bool false)),.val (.fix (.slice (some ⟨gx,ox,none⟩) x.length cX)),.val (.fix (.int .i64 (j:Nat))),.val (.fix (.pointer (some ⟨gx,ox+j*4,none⟩))),.val (.fix (qv xq X cx Y cy)),.val (.fix (.pointer (some ⟨w.heap.size,1,none⟩))),.val (.fix (.slice (some ⟨gh,oh,none⟩) p.hi.length m.hi.2)),.val (.fix (.int .i64 (j:Nat))),.val (.fix (.pointer (some ⟨gh,oh+j,none⟩))),.val (.fix (.int .i64 zh)),.val (.fix (.bool true)),.val (.fix (.bool false)),.val (.fix (.bool false))].getD jK .none) [] (by kernel_rfl) (by kernel_rfl) (by kernel_rfl) rfl MR (fun _ h=>by cases h) (fun _ h=>by cases h) ?_ ?_ ?_
   case refine_1=>
    intro s;simp only[fr,Act.put,zA,zB,zC,zD,zE,zF,Nat.reduceAdd];rfl
   case refine_2=>
    refine SC 0 1 rfl ?_ (SC 1 2 rfl ?_ (SC 2 3 rfl ?_ (SC 3 4 rfl ?_ (SC 4 5 rfl ?_ (SC 5 6 rfl ?_ (SC 6 7 rfl ?_ (SC 7 8 rfl ?_ (SC 8 9 rfl ?_ (SC 9 10 rfl ?_ (SC 10 11 rfl ?_ (SC 11 12 rfl ?_ (SC 12 13 rfl ?_ (SC 13 14 rfl ?_ (SC 14 15 rfl ?_ (SC 15 16 rfl ?_ (SC 16 17 rfl ?_ (SC 17 18 rfl ?_ (SC 18 19 rfl ?_ Steps.nil))))))))))))))))));all_goals (intro L s w9 hN hU hi hS K hK;dsimp only at hK⊢;simp only[Act.put,zD,zE,zF]at hK)
    ·go_simp;exact hS.o hK
    ·have e0:=hS.f hN 0;simp only[e0]at hK⊢;go_simp;exact hS.o hK
    ·have e1:=hS.f hN 1;simp only[e1]at hK⊢;go_simp;exact hS.o hK
    ·have e2:=hS.f hN 2;simp only[e2]at hK⊢;go_simp;exact hS.o hK
    ·have e3:=hS.f hN 3;simp only[e3]at hK⊢;have e2:=hS.f hN 2;simp only[e2]at hK⊢;go_simp;exact hS.o hK
    ·have e2:=hS.f hN 2;simp only[e2]at hK⊢;have e4:=hS.f hN 4;simp only[e4]at hK⊢;go_simp;exact hS.o hK
    ·have e5:=hS.f hN 5;simp only[e5]at hK⊢;go_simp;exact hS.o hK
    ·have e6:=hS.f hN 6;simp only[e6]at hK⊢;go_simp;exact hS.o hK
    ·have e6:=hS.f hN 6;simp only[e6]at hK⊢;go_simp;exact hS.o hK
    ·have e7:=hS.f hN 7;simp only[e7]at hK⊢;have e8:=hS.f hN 8;simp only[e8]at hK⊢;have e6:=hS.f hN 6;simp only[e6]at hK⊢;go_simp;exact hS.o hK
    ·have e9:=hS.f hN 9;simp only[e9]at hK⊢;have e6:=hS.f hN 6;simp only[e6]at hK⊢;have u1:=X1' _ hS.mem.bel;have u2:=X2' _ hS.mem.bel;have u3:=X3' _ hS.mem.bel;have u4:=X4' _ hS.mem.bel;go_simp;exact hS.o hK
    ·have e6:=hS.f hN 6;simp only[e6]at hK⊢;go_simp;exact hS.o hK
    ·have e11:=hS.f hN 11;simp only[e11]at hK⊢;have e6:=hS.f hN 6;simp only[e6]at hK⊢;have u0:=P1' _ hS.mem.bel;go_simp;exact hS.o hK
    ·have e6:=hS.f hN 6;simp only[e6]at hK⊢;go_simp;exact hS.o hK
    ·have e12:=hS.f hN 12;simp only[e12]at hK⊢;have e13:=hS.f hN 13;simp only[e13]at hK⊢;have e6:=hS.f hN 6;simp only[e6]at hK⊢;go_simp;exact hS.o hK
    ·have e14:=hS.f hN 14;simp only[e14]at hK⊢;have e6:=hS.f hN 6;simp only[e6]at hK⊢;have u0:=C1' _ hS.mem.bel;go_simp;exact hS.o hK
    ·have e10:=hS.f hN 10;simp only[e10]at hK⊢;have e15:=hS.f hN 15;simp only[e15]at hK⊢;have e6:=hS.f hN 6;simp only[e6]at hK⊢;go_simp;go_at_call 69;refine(atmost_at I1.out HQ5.out HLE.out hS.mem.bel).mono ?_;rintro e9 w10 ⟨rfl,q⟩;exact hK.out _ _ (hS.val rfl (noStore_of rfl) q rfl)
    ·have e16:=hS.f hN 16;simp only[e16]at hK⊢;have e6:=hS.f hN 6;simp only[e6]at hK⊢;go_simp;exact hS.o hK
    ·have e6:=hS.f hN 6;simp only[e6]at hK⊢;have e17:=hS.f hN 17;simp only[e17]at hK⊢;go_simp;exact hS.o hK
   intro L s w9 hall hS;have eL:s 18= .bool false:=hS.fx 18 rfl rfl (hall 18 (by decide));have q9:=hS.mem.bel;simp only[eL];have M9:=ZH (M.below q9);clear hS hall eL q9 MR P1' C1' X1' X2' X3' X4' M;go_wp2_with fail;go_roundg (x.length-(j+1))
   case measure=>omega
   case rel=>exact⟨j+1,rfl,by omega,by simp,M9.out⟩
  ·have d1:decide ((j:Int)<(x.length:Int))=false:=decide_eq_false (by omega);have HM:=ZH M;clear M;obtain⟨W0,rfl⟩:∃W0,W0=wr:=⟨_,rfl⟩;go_wp2_with fail;go_loopg [9,8] p.a.length (fun k _ pp wr=>∃i,k=p.a.length-i∧i≤p.a.length∧pp= .int .i64 (i:Nat)∧Mem w wr [(w.heap.size,tyR,pgC m p)] [])
   case atStart=>exact⟨0,rfl,Nat.zero_le _,rfl,HM.out⟩
   case round=>
    clear p0 p1 p2 p3 p4 d1 hlt HM hgw;obtain⟨i,hk2,hi,rfl,M⟩:=hrel;obtain⟨p0,p1,p2,p3,p4⟩:=(M.k (i:=0) rfl).fiveP;by_cases hlt:i<p.a.length
    ·have d1:decide ((i:Int)<(p.a.length:Int))=true:=decide_eq_true (by omega);have hltb:i<p.b.length:=by rw[HOK.out.b];exact hlt
     have I0:=ZH (HOK.out.ib i hlt);obtain⟨ga,oa,hA2,ci⟩:=(HP.out.ap.below M.bel) i hlt;replace ci:wr.cell? ⟨ga,oa+i,none⟩=some (.slice (m.rs.getD i (none,0)).1 (p.a.getD i []).length (m.rs.getD i (none,0)).2):=ci;rw[hA2]at p2;obtain⟨gb,ob,hA3,cb⟩:=(HP.out.b.below M.bel) i hltb;replace cb:wr.cell? ⟨gb,ob+i,none⟩=some (.int .i64 (p.b.getD i 0)):=cb;rw[hA3]at p3;have har:=(HP.out.below M.bel).ar i hlt;have hrl:=HOK.out.rows i hlt;obtain⟨sv,hsv,hle⟩:=HF.out.row i hlt;have HLE:=ZH hle;have hfs:Few sv:=dot_few _ _ few_zero hsv;have HFS:=ZH hfs;have HDT:=ZH (rdot_row (n:=x.length) (cX:=cX) (cz:=(m.rs.getD i (none,0)).2) (HX.out.below M.bel).grow HFX.out har (by rw[hrl,HL.out];exact Nat.le_refl _) (by omega) rfl (fun j hj=>HOK.out.ia i hlt j (by rw[←hrl];exact hj)));rw[hsv]at HDT;have P3:=Lk.of p3;have CB:=Lk.of cb;clear har hrl hsv hle hA3 p0 p1 p3 p4 cb hfs hA2;generalize p.a.getD i []=row at*;generalize (m.rs.getD i (none,0)).1=RA at*;generalize (m.rs.getD i (none,0)).2=cR at*;generalize p.b.getD i 0=zb at*;go_wp2_with fail;refine HDT.out.mono ?_;rintro e w5 ⟨⟨A5,c5,B5,d5,rfl,h5,k5⟩,q5⟩;replace M:=((M.below q5).addR k5).addR h5;have l5:=(M.k (i:=0) rfl).lt;have M2:=M.new tyS #[.bool (sN sv.num),.slice A5 (sD sv.num).length c5,.bool false,.slice B5 (dig sv.den).length d5,.bool false];have P3':=Lk.of (P3 _ (below_alloc q5 ZL (.cells #[.bool (sN sv.num),.slice A5 (sD sv.num).length c5,.bool false,.slice B5 (dig sv.den).length d5,.bool false] tyS)));have CB':=Lk.of (CB _ (below_alloc q5 ZL (.cells #[.bool (sN sv.num),.slice A5 (sD sv.num).length c5,.bool false,.slice B5 (dig sv.den).length d5,.bool false] tyS)));have HQ5:Hid (QR _ A5 c5 B5 d5 sv):=⟨M2.r (i:=0) rfl,M2.r (i:=1) rfl,HFS.out⟩;clear h5 k5 q5 P3 CB HDT M;go_upto_region 13 with fail;have MR:=M2.rebase;refine region_st (n:=13) (frame:= ?frame4) (fun jK=>[.val (.fix (.pointer (some ⟨w5.heap.size,4,none⟩))),.val (.fix (.bool false)),.val (.fix (.bool false)),.val (.fix (.pointer (some ⟨w5.heap.size,0,none⟩))),.val (.fix (qv sv A5 c5 B5 d5)),.val (.fix (.pointer (some ⟨w.heap.size,3,none⟩))),.val (.fix (.slice (some ⟨gb,ob,none⟩) p.b.length m.b.2)),.val (.fix (.int .i64 (i:Nat))),.val (.fix (.pointer (some ⟨gb,ob+i,none⟩))),.val (.fix (.int .i64 zb)),.val (.fix (.bool true)),.val (.fix (.bool false)),.val (.fix (.bool false))].getD jK .none) [] (by kernel_rfl) (by kernel_rfl) (by kernel_rfl) rfl MR (fun _ h=>by cases h) (fun _ h=>by cases h) ?_ ?_ ?_
     case refine_1=>
      intro s;simp only[fr,Act.put,zA,zB,zC,zD,zE,zF,Nat.reduceAdd];rfl
     case refine_2=>
      refine SC 0 1 rfl ?_ (SC 1 2 rfl ?_ (SC 2 3 rfl ?_ (SC 3 4 rfl ?_ (SC 4 5 rfl ?_ (SC 5 6 rfl ?_ (SC 6 7 rfl ?_ (SC 7 8 rfl ?_ (SC 8 9 rfl ?_ (SC 9 10 rfl ?_ (SC 10 11 rfl ?_ (SC 11 12 rfl ?_ (SC 12 13 rfl ?_ Steps.nil))))))))))));all_goals (intro L s w9 hN hU hi hS K hK;dsimp only at hK⊢;simp only[Act.put,zD,zE,zF]at hK)
      ·go_simp;exact hS.o hK
      ·have e0:=hS.f hN 0;simp only[e0]at hK⊢;obtain⟨u0,u1,u2,u3,u4⟩:=(hS.mem.k (i:=0) rfl).fiveP;go_simp;exact hS.o hK
      ·have e1:=hS.f hN 1;simp only[e1]at hK⊢;go_simp;exact hS.o hK
      ·have e2:=hS.f hN 2;simp only[e2]at hK⊢;go_simp;exact hS.o hK
      ·have e3:=hS.f hN 3;simp only[e3]at hK⊢;have e2:=hS.f hN 2;simp only[e2]at hK⊢;obtain⟨u0,u1,u2,u3,u4⟩:=(hS.mem.k (i:=0) rfl).fiveP;go_simp;exact hS.o hK
      ·have e2:=hS.f hN 2;simp only[e2]at hK⊢;go_simp;exact hS.o hK
      ·have e5:=hS.f hN 5;simp only[e5]at hK⊢;have e2:=hS.f hN 2;simp only[e2]at hK⊢;have u0:=P3' _ hS.mem.bel;go_simp;exact hS.o hK
      ·have e2:=hS.f hN 2;simp only[e2]at hK⊢;go_simp;exact hS.o hK
      ·have e6:=hS.f hN 6;simp only[e6]at hK⊢;have e7:=hS.f hN 7;simp only[e7]at hK⊢;have e2:=hS.f hN 2;simp only[e2]at hK⊢;go_simp;exact hS.o hK
      ·have e8:=hS.f hN 8;simp only[e8]at hK⊢;have e2:=hS.f hN 2;simp only[e2]at hK⊢;have u0:=CB' _ hS.mem.bel;go_simp;exact hS.o hK
      ·have e4:=hS.f hN 4;simp only[e4]at hK⊢;have e9:=hS.f hN 9;simp only[e9]at hK⊢;have e2:=hS.f hN 2;simp only[e2]at hK⊢;go_simp;go_at_call 69;refine(atmost_at I0.out HQ5.out HLE.out hS.mem.bel).mono ?_;rintro e9 w10 ⟨rfl,q⟩;exact hK.out _ _ (hS.val rfl (noStore_of rfl) q rfl)
      ·have e10:=hS.f hN 10;simp only[e10]at hK⊢;have e2:=hS.f hN 2;simp only[e2]at hK⊢;go_simp;exact hS.o hK
      ·have e2:=hS.f hN 2;simp only[e2]at hK⊢;have e11:=hS.f hN 11;simp only[e11]at hK⊢;go_simp;exact hS.o hK
     intro L s w9 hall hS;have eL:s 12= .bool false:=hS.fx 12 rfl rfl (hall 12 (by decide));have q9:=hS.mem.bel;simp only[eL];have M9:=ZH ((M2.below q9).sub (Ks':=[(w.heap.size,tyR,pgC m p)]) (Rs':=[]) (by simp) (by simp));clear hS hall eL q9 M2 MR P3' CB';go_wp2_with fail;go_roundg (p.a.length-(i+1))
     case measure=>omega
     case rel=>exact⟨i+1,rfl,by omega,by simp,M9.out⟩
    ·have d1:decide ((i:Int)<(p.a.length:Int))=false:=decide_eq_false (by omega);have HM:=ZH M;go_wp2_with fail;exact bodyPost_ret (v:= .bool true) (by simp[results,Tryz.results35,go_sem]) rfl ⟨rfl,HM.out.bel⟩
end Go.Proofs.YtpnmcacndjkfaaaGreat

/-
  Joined texts: KL, KW, KX.
-/
import Derived.Test.YtpnmcacndjkfaaaGreatKK
import Derived.Test.YtpnmcacndjkfaaaGreatKI
set_option linter.unusedSimpArgs false
set_option linter.unusedVariables false
namespace Go.Proofs.YtpnmcacndjkfaaaGreat
open Go.RowKit Num
set_option maxHeartbeats 40000000
set_option maxRecDepth 100000
structure FitP (p:Pg) (x:List Rat):Prop where
 len:x.length=p.lo.length
 lo:∀j,j<p.lo.length→((p.lo.getD j 0:Int):Rat)≤x.getD j 0
 hi:∀j,j<p.lo.length→x.getD j 0≤((p.hi.getD j 0:Int):Rat)
 row:∀i,i<p.a.length→∃s,dotO 0 x (p.a.getD i [])=some s∧s≤((p.b.getD i 0:Int):Rat)
theorem cmp_ge {a b:Rat}(h:b≤a):decide (cmpQ a b<0)=false:=by
 rw[cmpQ_lss];exact decide_eq_false (Rat.not_lt.2 h)
theorem cmp_le {a b:Rat}(h:a≤b):decide (0<cmpQ a b)=false:=by
 rw[cmpQ_gtr];exact decide_eq_false (Rat.not_lt.2 h)
abbrev tyW:TypeId:=22
theorem fit1_run (args:Array Value)(w:World):Sem.run Tryz.prog (callFunc 127 args) w= .ok (.enter 127 args) w:=by kernel_rfl
theorem fit1_any {w:World}{g:Nat}{A:Option Addr}{c j:Nat}{l:List Int}(hb:Blk w g tyW #[.slice A l.length c])(hc:IRow w A l)(hj:j<l.length):Calls Tryz.prog 127 #[iv6 j,vptr g] w fun e w2=>e= .returned (.int .i64 (l.getD j 0))∧Below w.heap.size w w2:=by
 have h0:_=some (Value.slice A l.length c):=hb.cell 0;obtain⟨gc,oc,hA,cj⟩:=hc j hj;replace cj:w.cell? ⟨gc,oc+j,none⟩=some (.int .i64 (l.getD j 0)):=cj;rw[hA]at h0;generalize l.getD j 0=z at*;generalize l.length=ll at*;clear hb hc hA;go_enter Tryz.func127,Tryz.ntmps127;go_wp2_with fail;exact bodyPost_ret (v:= .int .i64 z) (by simp[results,Tryz.results127,go_sem]) rfl ⟨rfl,Below.refl _ _⟩
theorem few_right {w:World}{A B:Option Addr}{c d:Nat}{q:Rat}(h:QR w A c B d q):Calls Tryz.prog 50 #[qv q A c B d] w fun e w'=>e= .returned (.bool true)∧Below w.heap.size w w':=by
 have h1:=qright_any (n:=sN q.num) (m:=false) h.num h.den;rw[qright_rat h.few]at h1;exact h1
theorem cmp_fix {q z:Rat}{A B:Option Addr}{c d:Nat}{k:Int}{w0:World}(hk:cmpQ q z=k)(hq:QR w0 A c B d q):∀{w':World}{q':Rat}{A' B':Option Addr}{c' d':Nat},Below w0.heap.size w0 w'→some z=some q'→QR w' A' c' B' d' q'→Calls Tryz.prog 93 #[qv q A c B d,qv q' A' c' B' d'] w' fun e w2=>e= .returned (.int .i64 k)∧Below w'.heap.size w' w2:=by
 intro w' q' A' B' c' d' hb h hq';cases h;subst hk;exact pcmp_any (hq.below hb) hq'
theorem cmp_fix2 {s z:Rat}{k:Int}{w:World}(hk:cmpQ s z=k){q q':Rat}{A B A' B':Option Addr}{c d c' d':Nat}(h:some s=some q)(h':some z=some q')(hq:QR w A c B d q)(hq':QR w A' c' B' d' q'):Calls Tryz.prog 93 #[qv q A c B d,qv q' A' c' B' d'] w fun e w2=>e= .returned (.int .i64 k)∧Below w.heap.size w w2:=by
 cases h;cases h';subst hk;exact pcmp_any hq hq'
theorem fit_good {w:World}{m:Pa}{p:Pg}{x:List Rat}{AX:Option Addr}{cX n:Nat}(hn:n=x.length)(hp:PgAt w m p)(hok:PgOk p)(hx:QRow w AX x)(hf:FitP p x):Calls Tryz.prog 91 #[.agg (pgC m p),.slice AX n cX] w fun e w'=>e= .returned (.bool true)∧Below w.heap.size w w':=by
 subst hn;have HP:=ZH hp;have HOK:=ZH hok;have HX:=ZH hx;have HF:=ZH hf;have hmf:∀(fn:Fn)(first cap:Array Value)(w:World),(Instr.makeFunc fn first cap).run Tryz.prog w= .ok (.func fn first cap) w:=fun _ _ _ _=>rfl;have hn64:p.lo.length≤64:=hok.n;have ha160:p.a.length≤160:=hok.a;have hl:=hf.len;have d0:((x.length:Int) !=(p.lo.length:Int))=false:=by rw[hl];simp
 have HL:=ZH hl;have hx64:x.length≤64:=by omega
 have M:=(Mem.start w).new tyP (pgC m p);obtain⟨p0,p1,p2,p3,p4⟩:=(M.k (i:=0) rfl).fiveP;clear hp hok hx hf hl;go_enter Tryz.func91,Tryz.ntmps91;go_wp2_with fail;go_loopg [17] x.length (fun k pp wr=>∃j,k=x.length-j∧j≤x.length∧pp= .int .i64 (j:Nat)∧Mem w wr [(w.heap.size,tyP,pgC m p)] [])
 case atStart=>exact⟨0,rfl,Nat.zero_le _,rfl,M⟩
 case round=>
  clear M p0 p1 p2 p3 p4;obtain⟨j,hk,hj,rfl,M⟩:=hrel;obtain⟨p0,p1,p2,p3,p4⟩:=(M.k (i:=0) rfl).fiveP;have hgw:=(M.k (i:=0) rfl).lt;by_cases hlt:j<x.length
  ·have d1:decide ((j:Int)<(x.length:Int))=true:=decide_eq_true (by omega);have hltl:j<p.lo.length:=by have:=HL.out;omega
   have hlth:j<p.hi.length:=by rw[HOK.out.hi];exact hltl
   have I0:=ZH (HOK.out.ilo j hltl);have I1:=ZH (HOK.out.ihi j hltl);obtain⟨gl,ol,hA0,c0⟩:=(HP.out.lo.below M.bel) j hltl;obtain⟨gh,oh,hA1,c1⟩:=(HP.out.hi.below M.bel) j hlth;replace c0:wr.cell? ⟨gl,ol+j,none⟩=some (.int .i64 (p.lo.getD j 0)):=c0;replace c1:wr.cell? ⟨gh,oh+j,none⟩=some (.int .i64 (p.hi.getD j 0)):=c1;rw[hA0]at p0;rw[hA1]at p1;obtain⟨gx,ox,rfl,X,cx,Y,cy,a1,a2,a3,a4,hq⟩:=(HX.out.below M.bel) j hlt;have e0:=cmp_ge (HF.out.lo j hltl);have e1:=cmp_le (HF.out.hi j hltl);obtain⟨k0,hk0⟩:∃k,cmpQ (x.getD j 0) ((p.lo.getD j 0:Int):Rat)=k:=⟨_,rfl⟩;obtain⟨k1,hk1⟩:∃k,cmpQ (x.getD j 0) ((p.hi.getD j 0:Int):Rat)=k:=⟨_,rfl⟩;rw[hk0]at e0;rw[hk1]at e1;have HK0:=ZH hk0;have HK1:=ZH hk1;have HQ:=ZH hq;have P0:=Lk.of p0;have P1:=Lk.of p1;have C0:=Lk.of c0;have C1:=Lk.of c1;generalize p.lo.getD j 0=zl at*;generalize p.hi.getD j 0=zh at*;generalize x.getD j 0=xq at*;have M2:=M.new 33 z4;clear hA0 hA1 c0 c1 p0 p1 p2 p3 p4 hk0 hk1 hq;go_upto_region 6 with ((with_reducible refine st_ ?_);refine wp_put2 _ _ (M2.k (i:=0) rfl) rfl rfl rfl rfl info_rat rfl rfl ?_;intro w5 b5 g5';replace M2:=M2.row (by omega) (by simp<;>omega) rfl b5 g5');have MR:=M2.rebase;have HQ5:=ZH ((HQ.out.below (below_alloc1 wr (.cells z4 33))).boxed ((Blk.new wr 33 z4).box rfl) g5');have B5:Hid (Below wr.heap.size wr w5):=below_own (below_alloc1 wr (.cells z4 33)) g5' ZL;have P0':=Lk.of (P0 _ B5.out);have P1':=Lk.of (P1 _ B5.out);have C0':=Lk.of (C0 _ B5.out);have C1':=Lk.of (C1 _ B5.out);clear a1 a2 a3 a4 b5 g5' P0 P1 C0 C1 HQ;refine region_st (n:=25) (frame:= ?frame1) (fun jK=>[.val (.fix (.agg #[.bool (sN xq.num),.slice X (sD xq.num).length cx,.bool false,.slice Y (dig xq.den).length cy])),.val (.fix (.bool true)),.val (.fix (.bool false)),.val (.fix (.bool false)),.val (.fix (.agg #[.bool (sN xq.num),.slice X (sD xq.num).length cx,.bool false,.slice Y (dig xq.den).length cy])),.val (.fix (.pointer (some ⟨w.heap.size,0,none⟩))),.val (.fix (.slice (some ⟨gl,ol,none⟩) p.lo.length m.lo.2)),.val (.fix (.int .i64 (j:Nat))),.val (.fix (.pointer (some ⟨gl,ol+j,none⟩))),.val (.fix (.int .i64 zl)),.val (Sh.rq (some (zl:Rat))),.val (.fix (.int .i64 k0)),.val (.fix (.bool false)),.val (.fix (.bool false)),.val (.fix (.bool false)),.val (.fix (.agg #[.bool (sN xq.num),.slice X (sD xq.num).length cx,.bool false,.slice Y (dig xq.den).length cy])),.val (.fix (.pointer (some ⟨w.heap.size,1,none⟩))),.val (.fix (.slice (some ⟨gh,oh,none⟩) p.hi.length m.hi.2)),.val (.fix (.int .i64 (j:Nat))),.val (.fix (.pointer (some ⟨gh,oh+j,none⟩))),.val (.fix (.int .i64 zh)),.val (Sh.rq (some (zh:Rat))),.val (.fix (.int .i64 k1)),.val (.fix (.bool false)),.val (.fix (.bool false))].getD jK .none) [] (by kernel_rfl) (by kernel_rfl) (by kernel_rfl) rfl MR (fun _ h=>by cases h) (fun _ h=>by cases h) ?_ ?_ ?_
   case refine_1=>
    intro s;simp only[fr,Act.put,zA,zB,zC,zD,zE,zF,Nat.reduceAdd];rfl
   case refine_2=>
    refine SC 0 1 rfl ?_ (SC 1 2 rfl ?_ (SC 2 3 rfl ?_ (SC 3 4 rfl ?_ (SC 4 5 rfl ?_ (SC 5 6 rfl ?_ (SC 6 7 rfl ?_ (SC 7 8 rfl ?_ (SC 8 9 rfl ?_ (SC 9 10 rfl ?_ (SC 10 11 rfl ?_ (SC 11 12 rfl ?_ (SC 12 13 rfl ?_ (SC 13 14 rfl ?_ (SC 14 15 rfl ?_ (SC 15 16 rfl ?_ (SC 16 17 rfl ?_ (SC 17 18 rfl ?_ (SC 18 19 rfl ?_ (SC 19 20 rfl ?_ (SC 20 21 rfl ?_ (SC 21 22 rfl ?_ (SC 22 23 rfl ?_ (SC 23 24 rfl ?_ (SC 24 25 rfl ?_ Steps.nil))))))))))))))))))))))));all_goals (intro L s w9 hN hU hi hS K hK;dsimp only at hK⊢;simp only[Act.put,zD,zE,zF]at hK)
    ·obtain⟨u1,u2,u3,u4⟩:=(hS.mem.k (i:=0) rfl).four;go_simp;exact hS.o hK
    ·have e0:=hS.f hN 0;simp only[e0]at hK⊢;go_simp;go_at_call 50;refine(few_right (HQ5.out.below hS.mem.bel)).mono ?_;rintro e9 w10 ⟨rfl,q⟩;exact hK.out _ _ (hS.val rfl (noStore_of rfl) q rfl)
    ·have e1:=hS.f hN 1;simp only[e1]at hK⊢;go_simp;exact hS.o hK
    ·have e2:=hS.f hN 2;simp only[e2]at hK⊢;go_simp;exact hS.o hK
    ·have e3:=hS.f hN 3;simp only[e3]at hK⊢;obtain⟨u1,u2,u3,u4⟩:=(hS.mem.k (i:=0) rfl).four;go_simp;exact hS.o hK
    ·have e3:=hS.f hN 3;simp only[e3]at hK⊢;go_simp;exact hS.o hK
    ·have e5:=hS.f hN 5;simp only[e5]at hK⊢;have e3:=hS.f hN 3;simp only[e3]at hK⊢;have u0:=P0' _ hS.mem.bel;go_simp;exact hS.o hK
    ·have e3:=hS.f hN 3;simp only[e3]at hK⊢;go_simp;exact hS.o hK
    ·have e6:=hS.f hN 6;simp only[e6]at hK⊢;have e7:=hS.f hN 7;simp only[e7]at hK⊢;have e3:=hS.f hN 3;simp only[e3]at hK⊢;go_simp;exact hS.o hK
    ·have e8:=hS.f hN 8;simp only[e8]at hK⊢;have e3:=hS.f hN 3;simp only[e3]at hK⊢;have u0:=C0' _ hS.mem.bel;go_simp;exact hS.o hK
    ·have e9:=hS.f hN 9;simp only[e9]at hK⊢;have e3:=hS.f hN 3;simp only[e3]at hK⊢;go_simp;go_at_call 18;refine(pof_any I0.out.1 I0.out.2).mono ?_;rintro e9 w10 ⟨q,A9,c9,B9,d9,rfl,hq9⟩;exact hK.out _ _ (hS.val rfl (noStore_of rfl) q ⟨_,A9,c9,B9,d9,rfl,rfl,hq9⟩)
    ·have e4:=hS.f hN 4;simp only[e4]at hK⊢;obtain⟨q10,A10,c10,B10,d10,o10,e10,h10⟩:=hS.val_at 10 rfl (by decide) (hN.out 10 rfl);simp only[e10]at hK⊢;have e3:=hS.f hN 3;simp only[e3]at hK⊢;go_simp;go_at_call 93;refine(cmp_fix HK0.out HQ5.out hS.mem.bel o10 h10).mono ?_;rintro e9 w10 ⟨rfl,q⟩;exact hK.out _ _ (hS.val rfl (noStore_of rfl) q rfl)
    ·have e11:=hS.f hN 11;simp only[e11]at hK⊢;have e3:=hS.f hN 3;simp only[e3]at hK⊢;go_simp;exact hS.o hK
    ·have e3:=hS.f hN 3;simp only[e3]at hK⊢;have e12:=hS.f hN 12;simp only[e12]at hK⊢;go_simp;exact hS.o hK
    ·have e13:=hS.f hN 13;simp only[e13]at hK⊢;go_simp;exact hS.o hK
    ·have e14:=hS.f hN 14;simp only[e14]at hK⊢;obtain⟨u1,u2,u3,u4⟩:=(hS.mem.k (i:=0) rfl).four;go_simp;exact hS.o hK
    ·have e14:=hS.f hN 14;simp only[e14]at hK⊢;go_simp;exact hS.o hK
    ·have e16:=hS.f hN 16;simp only[e16]at hK⊢;have e14:=hS.f hN 14;simp only[e14]at hK⊢;have u0:=P1' _ hS.mem.bel;go_simp;exact hS.o hK
    ·have e14:=hS.f hN 14;simp only[e14]at hK⊢;go_simp;exact hS.o hK
    ·have e17:=hS.f hN 17;simp only[e17]at hK⊢;have e18:=hS.f hN 18;simp only[e18]at hK⊢;have e14:=hS.f hN 14;simp only[e14]at hK⊢;go_simp;exact hS.o hK
    ·have e19:=hS.f hN 19;simp only[e19]at hK⊢;have e14:=hS.f hN 14;simp only[e14]at hK⊢;have u0:=C1' _ hS.mem.bel;go_simp;exact hS.o hK
    ·have e20:=hS.f hN 20;simp only[e20]at hK⊢;have e14:=hS.f hN 14;simp only[e14]at hK⊢;go_simp;go_at_call 18;refine(pof_any I1.out.1 I1.out.2).mono ?_;rintro e9 w10 ⟨q,A9,c9,B9,d9,rfl,hq9⟩;exact hK.out _ _ (hS.val rfl (noStore_of rfl) q ⟨_,A9,c9,B9,d9,rfl,rfl,hq9⟩)
    ·have e15:=hS.f hN 15;simp only[e15]at hK⊢;obtain⟨q21,A21,c21,B21,d21,o21,e21,h21⟩:=hS.val_at 21 rfl (by decide) (hN.out 21 rfl);simp only[e21]at hK⊢;have e14:=hS.f hN 14;simp only[e14]at hK⊢;go_simp;go_at_call 93;refine(cmp_fix HK1.out HQ5.out hS.mem.bel o21 h21).mono ?_;rintro e9 w10 ⟨rfl,q⟩;exact hK.out _ _ (hS.val rfl (noStore_of rfl) q rfl)
    ·have e22:=hS.f hN 22;simp only[e22]at hK⊢;have e14:=hS.f hN 14;simp only[e14]at hK⊢;go_simp;exact hS.o hK
    ·have e14:=hS.f hN 14;simp only[e14]at hK⊢;have e23:=hS.f hN 23;simp only[e23]at hK⊢;go_simp;exact hS.o hK
   intro L s w9 hall hS;have eL:s 24= .bool false:=hS.fx 24 rfl rfl (hall 24 (by decide));have q9:=hS.mem.bel;simp only[eL];have M9:=ZH ((M2.below q9).sub (Ks':=[(w.heap.size,tyP,pgC m p)]) (Rs':=[]) (by simp) (by simp));clear hS hall eL q9 M2 MR P0' P1' C0' C1' B5 M;go_wp2_with fail;go_roundg (x.length-(j+1))
   case measure=>omega
   case rel=>exact⟨j+1,rfl,by omega,by simp,M9.out⟩
  ·have d1:decide ((j:Int)<(x.length:Int))=false:=decide_eq_false (by omega);obtain⟨AA,hAA⟩:∃AA,m.a.1=AA:=⟨_,rfl⟩;rw[hAA]at p2;have HAA:=ZH hAA;have HM:=ZH M;clear hAA M;obtain⟨W0,rfl⟩:∃W0,W0=wr:=⟨_,rfl⟩;go_wp2_with fail;go_loopg [51] p.a.length (fun k pp wr=>∃i,k=p.a.length-i∧i≤p.a.length∧pp= .int .i64 (i:Nat)∧Mem w wr [(w.heap.size,tyP,pgC m p)] [])
   case atStart=>exact⟨0,rfl,Nat.zero_le _,rfl,HM.out⟩
   case round=>
    clear p0 p1 p2 p3 p4 d1 hlt HM hgw;obtain⟨i,hk2,hi,rfl,M⟩:=hrel;obtain⟨p0,p1,p2,p3,p4⟩:=(M.k (i:=0) rfl).fiveP;have hgw:=(M.k (i:=0) rfl).lt;by_cases hlt:i<p.a.length
    ·have d1:decide ((i:Int)<(p.a.length:Int))=true:=decide_eq_true (by omega);have hltb:i<p.b.length:=by rw[HOK.out.b];exact hlt
     have I0:=ZH (HOK.out.ib i hlt);obtain⟨ga,oa,hA2,ci⟩:=(HP.out.ap.below M.bel) i hlt;replace ci:wr.cell? ⟨ga,oa+i,none⟩=some (.slice (m.rs.getD i (none,0)).1 (p.a.getD i []).length (m.rs.getD i (none,0)).2):=ci;rw[HAA.out]at hA2;subst hA2;obtain⟨gb,ob,hA3,cb⟩:=(HP.out.b.below M.bel) i hltb;replace cb:wr.cell? ⟨gb,ob+i,none⟩=some (.int .i64 (p.b.getD i 0)):=cb;rw[hA3]at p3;have har:=(HP.out.below M.bel).ar i hlt;have hrl:=HOK.out.rows i hlt;obtain⟨sv,hsv,hle⟩:=HF.out.row i hlt;have e0:=cmp_le hle;obtain⟨k0,hk0⟩:∃k,cmpQ sv ((p.b.getD i 0:Int):Rat)=k:=⟨_,rfl⟩;rw[hk0]at e0;have h64:∀j,j<x.length→-9223372036854775808≤(p.a.getD i []).getD j 0∧(p.a.getD i []).getD j 0≤9223372036854775807:=fun j hj=>HOK.out.ia i hlt j (by have:=HL.out;omega);have HDT:Hid (∀w' g,Below wr.heap.size wr w'→Blk w' g tyW #[.slice (m.rs.getD i (none,0)).1 (p.a.getD i []).length (m.rs.getD i (none,0)).2]→Calls Tryz.prog 62 #[.slice AX x.length cX,.func (.func 127) #[] #[vptr g]] w' fun e w2=>Below w'.heap.size w' w2∧∃A c B d,e= .returned (qv sv A c B d)∧QR w2 A c B d sv):=fun w' g q hb=>by
      have h1:=pdot_any (caps:= #[vptr g]) (g:=127) (c:=cX) (f:=fun j=>(p.a.getD i []).getD j 0) (HX.out.below (below_trans M.bel q)) (by omega) h64 fit1_run (fun w2 q2 j hj=>fit1_any (hb.below q2 ZL) ((har.below q).below q2) (by have:=HL.out;omega));rw[dotF_eq _ (p.a.getD i []) x 0 0 (by rw[hrl,HL.out];exact Nat.le_refl _) (fun i hi=>rfl)]at h1;refine h1.mono ?_;rintro e w2 ⟨q2,⟨q',A,c,B,d,h3,rfl,h4⟩|⟨h3,_⟩⟩
      ·have h5:some sv=some q':=hsv.symm.trans h3;cases h5;exact⟨q2,A,c,B,d,rfl,h4⟩
      ·have h5:some sv=none:=hsv.symm.trans h3;cases h5
     have HK0:=ZH hk0;have P3:=Lk.of p3;have CB:=Lk.of cb;clear har hrl hsv hle hk0 h64 hA3 p0 p1 p3 p4 cb;generalize p.a.getD i []=row at*;generalize (m.rs.getD i (none,0)).1=RA at*;generalize (m.rs.getD i (none,0)).2=cR at*;generalize p.b.getD i 0=zb at*;have M2:=M.new tyW #[.slice RA row.length cR];go_upto_region 12 with fail;have MR:=M2.rebase;have P3':=Lk.of (P3 _ (below_alloc1 wr (.cells #[.slice RA row.length cR] tyW)));have CB':=Lk.of (CB _ (below_alloc1 wr (.cells #[.slice RA row.length cR] tyW)));have B5:Hid (Below wr.heap.size wr (wr.alloc (.cells #[.slice RA row.length cR] tyW))):=below_alloc1 _ _;clear P3 CB;refine region_st (n:=11) (frame:= ?frame2) (fun jK=>[.val (.fix (.slice AX x.length cX)),.val (.fix (.func (.func 127) #[] #[vptr wr.heap.size])),.val (Sh.rq (some sv)),.val (.fix (.pointer (some ⟨w.heap.size,3,none⟩))),.val (.fix (.slice (some ⟨gb,ob,none⟩) p.b.length m.b.2)),.val (.fix (.int .i64 (i:Nat))),.val (.fix (.pointer (some ⟨gb,ob+i,none⟩))),.val (.fix (.int .i64 zb)),.val (Sh.rq (some (zb:Rat))),.val (.fix (.int .i64 k0)),.val (.fix (.bool false))].getD jK .none) [] (by kernel_rfl) (by kernel_rfl) (by kernel_rfl) rfl MR (fun _ h=>by cases h) (fun _ h=>by cases h) ?_ ?_ ?_
     case refine_1=>
      intro s;simp only[fr,Act.put,zA,zB,zC,zD,zE,zF,Nat.reduceAdd];rfl
     case refine_2=>
      refine SC 0 1 rfl ?_ (SC 1 2 rfl ?_ (SC 2 3 rfl ?_ (SC 3 4 rfl ?_ (SC 4 5 rfl ?_ (SC 5 6 rfl ?_ (SC 6 7 rfl ?_ (SC 7 8 rfl ?_ (SC 8 9 rfl ?_ (SC 9 10 rfl ?_ (SC 10 11 rfl ?_ Steps.nil))))))))));all_goals (intro L s w9 hN hU hi hS K hK;dsimp only at hK⊢;simp only[Act.put,zD,zE,zF]at hK)
      ·go_simp;exact hS.o hK
      ·go_simp;exact hS.o hK
      ·have e0:=hS.f hN 0;simp only[e0]at hK⊢;have e1:=hS.f hN 1;simp only[e1]at hK⊢;go_simp;go_at_call 62;refine(HDT.out _ _ (below_trans B5.out hS.mem.bel) (hS.mem.k (i:=0) rfl)).mono ?_;rintro e9 w10 ⟨q,A9,c9,B9,d9,rfl,hq9⟩;exact hK.out _ _ (hS.val rfl (noStore_of rfl) q ⟨_,A9,c9,B9,d9,rfl,rfl,hq9⟩)
      ·go_simp;exact hS.o hK
      ·have e3:=hS.f hN 3;simp only[e3]at hK⊢;have u0:=P3' _ hS.mem.bel;go_simp;exact hS.o hK
      ·go_simp;exact hS.o hK
      ·have e4:=hS.f hN 4;simp only[e4]at hK⊢;have e5:=hS.f hN 5;simp only[e5]at hK⊢;go_simp;exact hS.o hK
      ·have e6:=hS.f hN 6;simp only[e6]at hK⊢;have u0:=CB' _ hS.mem.bel;go_simp;exact hS.o hK
      ·have e7:=hS.f hN 7;simp only[e7]at hK⊢;go_simp;go_at_call 18;refine(pof_any I0.out.1 I0.out.2).mono ?_;rintro e9 w10 ⟨q,A9,c9,B9,d9,rfl,hq9⟩;exact hK.out _ _ (hS.val rfl (noStore_of rfl) q ⟨_,A9,c9,B9,d9,rfl,rfl,hq9⟩)
      ·obtain⟨q2,A2,c2,B2,d2,o2,e2,h2⟩:=hS.val_at 2 rfl (by decide) (hN.out 2 rfl);simp only[e2]at hK⊢;obtain⟨q8,A8,c8,B8,d8,o8,e8,h8⟩:=hS.val_at 8 rfl (by decide) (hN.out 8 rfl);simp only[e8]at hK⊢;go_simp;go_at_call 93;refine(cmp_fix2 HK0.out o2 o8 h2 h8).mono ?_;rintro e9 w10 ⟨rfl,q⟩;exact hK.out _ _ (hS.val rfl (noStore_of rfl) q rfl)
      ·have e9:=hS.f hN 9;simp only[e9]at hK⊢;go_simp;exact hS.o hK
     intro L s w9 hall hS;have eL:s 10= .bool false:=hS.fx 10 rfl rfl (hall 10 (by decide));have q9:=hS.mem.bel;simp only[eL];have M9:=ZH ((M2.below q9).sub (Ks':=[(w.heap.size,tyP,pgC m p)]) (Rs':=[]) (by simp) (by simp));clear hS hall eL q9 M2 MR P3' CB' B5 M;go_wp2_with fail;go_roundg (p.a.length-(i+1))
     case measure=>omega
     case rel=>exact⟨i+1,rfl,by omega,by simp,M9.out⟩
    ·have d1:decide ((i:Int)<(p.a.length:Int))=false:=decide_eq_false (by omega);have HM:=ZH M;go_wp2_with fail;exact bodyPost_ret (v:= .bool true) (by simp[results,Tryz.results91,go_sem]) rfl ⟨rfl,HM.out.bel⟩
theorem RetP.some {w w':World}{e:Ending}{v:Rat}{o:Option Rat}(h:RetP w w' e o)(ho:o=Option.some v):Below w.heap.size w w'∧∃A c B d,e= .returned (qv v A c B d)∧QR w' A c B d v:=by
 subst ho;obtain⟨q,⟨q',A,c,B,d,h1,h2,h3⟩|⟨h1,_⟩⟩:=h
 ·cases h1;exact⟨q,A,c,B,d,h2,h3⟩
 ·cases h1
theorem cmp_self (v:Rat):cmpQ v v=0:=by
 unfold cmpQ;rw[if_neg Rat.lt_irrefl,if_neg Rat.lt_irrefl]
structure OptP (p:Pg) (x y:List Rat) (v:Rat):Prop where
 fit:FitP p x
 num:numbersB p (y.map frq)=true
 few:∀q∈y,Few q
 cost:dotO 0 x p.c=some v
 least:leastP p y (some p.c)=some v
abbrev anC (k:Int)(x y:List Rat)(v:Rat)(AX:Option Addr)(cX:Nat)(AY:Option Addr)(cY:Nat)(A:Option Addr)(c:Nat)(B:Option Addr)(d:Nat):Array Value:= #[.int .i64 k,.slice AX x.length cX,.bool (sN v.num),.slice A (sD v.num).length c,.bool false,.slice B (dig v.den).length d,.slice AY y.length cY]
theorem prv1_run (args:Array Value)(w:World):Sem.run Tryz.prog (callFunc 92 args) w= .ok (.enter 92 args) w:=by kernel_rfl
theorem prd1_run (args:Array Value)(w:World):Sem.run Tryz.prog (callFunc 53 args) w= .ok (.enter 53 args) w:=by kernel_rfl
theorem prv1_any {w:World}{g:Nat}{m:Pa}{p:Pg}{j:Nat}(hb:Blk w g tyP (pgC m p))(hc:IRow w m.c.1 p.c)(hj:j<p.c.length):Calls Tryz.prog 92 #[iv6 j,vptr g] w fun e w2=>e= .returned (.int .i64 (p.c.getD j 0))∧Below w.heap.size w w2:=by
 obtain⟨h0,h1,h2,h3,h4⟩:=hb.fiveP;obtain⟨gc,oc,hA,cj⟩:=hc j hj;replace cj:w.cell? ⟨gc,oc+j,none⟩=some (.int .i64 (p.c.getD j 0)):=cj;rw[hA]at h4;generalize p.c.getD j 0=z at*;generalize p.c.length=l at*;generalize m.c.2=cc at*;clear hb hc hA h0 h1 h2 h3;go_enter Tryz.func92,Tryz.ntmps92;go_wp2_with fail;exact bodyPost_ret (v:= .int .i64 z) (by simp[results,Tryz.results92,go_sem]) rfl ⟨rfl,Below.refl _ _⟩
theorem proved_good {w:World}{m:Pa}{p:Pg}{x y:List Rat}{v:Rat}{AX AY A B:Option Addr}{cX cY c d:Nat}(hp:PgAt w m p)(hr:rightPg p=true)(hx:QRow w AX x)(hy:QRow w AY y)(hyg:GRow w AY (y.map frq))(hv:QR w A c B d v)(ho:OptP p x y v):Calls Tryz.prog 54 #[.agg (pgC m p),.agg (anC 1 x y v AX cX AY cY A c B d)] w fun e w'=>e= .returned (.bool true)∧Below w.heap.size w w':=by
 have hok:=ok_of_right hr;have hl:y.length=p.a.length:=by
  have:=ho.num;unfold numbersB at this;rw[Bool.and_eq_true,decide_eq_true_eq,List.length_map]at this;exact this.1
 have HV:=ZH hv;have hmf:∀(fn:Fn)(first cap:Array Value)(w:World),(Instr.makeFunc fn first cap).run Tryz.prog w= .ok (.func fn first cap) w:=fun _ _ _ _=>rfl;have HFIT:=ZH (fun(w':World)(q:Below w.heap.size w w')=>fit_good (cX:=cX) (n:=x.length) rfl (hp.below q) hok (hx.below q) ho.fit);have HNUM:=ZH (fun(w':World)(q:Below w.heap.size w w')=>numbers_any (m:=m) (p:=p) (c:=cY) (hyg.below q) (by have:=hok.a;rw[List.length_map];omega));rw[ho.num,List.length_map]at HNUM;have HDT:Hid (∀w',Below w.heap.size w w'→Blk w' w.heap.size tyP (pgC m p)→Calls Tryz.prog 62 #[.slice AX x.length cX,.func (.func 92) #[] #[vptr w.heap.size]] w' fun e w2=>Below w'.heap.size w' w2∧∃A c B d,e= .returned (qv v A c B d)∧QR w2 A c B d v):=fun w' q hb=>by
  have hxl:=ho.fit.len;have h64:∀j,j<x.length→-9223372036854775808≤p.c.getD j 0∧p.c.getD j 0≤9223372036854775807:=fun j hj=>hok.ic j (by omega);have h1:=pdot_any (caps:= #[vptr w.heap.size]) (g:=92) (c:=cX) (f:=fun j=>p.c.getD j 0) (hx.below q) (by have:=hok.n;omega) h64 prv1_run (fun w2 q2 j hj=>prv1_any (hb.below q2 ZL) ((hp.below q).below q2).c (by rw[hok.c];omega));rw[dotF_eq _ p.c x 0 0 (by rw[hok.c,hxl];exact Nat.le_refl _) (fun i hi=>rfl)]at h1;exact h1.mono fun e w2 h=>h.some ho.cost
 have HLE:=ZH (fun(w':World)(q:Below w.heap.size w w')=>(least_any (cY:=cY) (hp.below q) hok (hy.below q) hl (hp.below q).costV).mono fun e w2 h=>RetP.some h ho.least);have hcm:=cmp_self v;have HCM:=ZH hcm;have M:=(((Mem.start w).new tyP (pgC m p)).newAt (g:=w.heap.size+1) (by simp) tyA (anC 1 x y v AX cX AY cY A c B d));obtain⟨p0,p1,p2,p3,p4⟩:=(M.k (i:=1) rfl).fiveP;obtain⟨x0,x1,x2,x3,x4,x5,x6⟩:=(M.k (i:=0) rfl).seven;clear hp hr hx hy hyg hv ho hok hl hcm;go_enter Tryz.func54,Tryz.ntmps54;go_wp2_with fail;refine(HFIT.out _ M.bel).mono ?_;rintro e w1 ⟨rfl,q1⟩;replace M:=M.below q1;clear p0 p1 p2 p3 p4 x0 x1 x2 x3 x4 x5 x6;obtain⟨p0,p1,p2,p3,p4⟩:=(M.k (i:=1) rfl).fiveP;obtain⟨x0,x1,x2,x3,x4,x5,x6⟩:=(M.k (i:=0) rfl).seven;go_wp2_with fail;refine(HNUM.out _ M.bel).mono ?_;rintro e w2 ⟨rfl,q2⟩;replace M:=M.below q2;clear p0 p1 p2 p3 p4 x0 x1 x2 x3 x4 x5 x6;obtain⟨x0,x1,x2,x3,x4,x5,x6⟩:=(M.k (i:=0) rfl).seven;go_wp2_with fail;refine(few_right (HV.out.below M.bel)).mono ?_;rintro e w3 ⟨rfl,q3⟩;replace M:=M.below q3;clear x0 x1 x2 x3 x4 x5 x6;obtain⟨x0,x1,x2,x3,x4,x5,x6⟩:=(M.k (i:=0) rfl).seven;go_wp2_with fail;refine(HDT.out _ M.bel (M.k (i:=1) rfl)).mono ?_;rintro e w4 ⟨q4,A5,c5,B5,d5,rfl,h5⟩;replace M:=M.below q4;have l4:=(M.k (i:=0) rfl).lt;have M2:=M.new 33 z4;have HQ5:=ZH h5;clear x0 x1 x2 x3 x4 x5 x6 q1 q2 q3 q4 h5;go_upto_region 6 with ((with_reducible refine st_ ?_);refine wp_put2 _ _ (M2.k (i:=0) rfl) rfl rfl rfl rfl info_rat rfl rfl ?_;intro w5 b5 g5';replace HQ5:=ZH ((HQ5.out.below (below_alloc1 w4 (.cells z4 33))).boxed ((Blk.new w4 33 z4).box rfl) g5');replace M2:=M2.row (by omega) (by simp<;>omega) rfl b5 g5');have q0:=M2.bel;have MR:=M2.rebase;have HV5:=ZH (HV.out.below q0);clear M;refine region_st (n:=18) (frame:= ?frame1) (fun jK=>[.val (.fix (.agg #[.bool (sN v.num),.slice A5 (sD v.num).length c5,.bool false,.slice B5 (dig v.den).length d5])),.val (.fix (.pointer (some ⟨w.heap.size+1,2,none⟩))),.val (.fix (qv v A c B d)),.val (.fix (.int .i64 0)),.val (.fix (.bool true)),.val (.fix (.bool true)),.val (.fix (.agg (pgC m p))),.val (.fix (.pointer (some ⟨w.heap.size+1,6,none⟩))),.val (.fix (.slice AY y.length cY)),.val (.fix (.pointer (some ⟨w.heap.size,4,none⟩))),.val (.fix (.slice m.c.1 p.c.length m.c.2)),.val (Sh.rq (some v)),.val (.fix (.pointer (some ⟨w.heap.size+1,2,none⟩))),.val (.fix (qv v A c B d)),.val (.fix (.int .i64 0)),.val (.fix (.bool true)),.val (.fix (.bool true)),.val (.fix (.bool true))].getD jK .none) [] (by kernel_rfl) (by kernel_rfl) (by kernel_rfl) rfl MR (fun _ h=>by cases h) (fun _ h=>by cases h) ?_ ?_ ?_
 case refine_1=>
  intro s;simp only[fr,Act.put,zA,zB,zC,zD,zE,zF,Nat.reduceAdd];rfl
 case refine_2=>
  refine SC 0 1 rfl ?_ (SC 1 2 rfl ?_ (SC 2 3 rfl ?_ (SC 3 4 rfl ?_ (SC 4 5 rfl ?_ (SC 5 6 rfl ?_ (SC 6 7 rfl ?_ (SC 7 8 rfl ?_ (SC 8 9 rfl ?_ (SC 9 10 rfl ?_ (SC 10 11 rfl ?_ (SC 11 12 rfl ?_ (SC 12 13 rfl ?_ (SC 13 14 rfl ?_ (SC 14 15 rfl ?_ (SC 15 16 rfl ?_ (SC 16 17 rfl ?_ (SC 17 18 rfl ?_ Steps.nil)))))))))))))))));all_goals (intro L s w9 hN hU hi hS K hK;dsimp only at hK⊢;simp only[Act.put,zD,zE,zF]at hK)
  ·obtain⟨u1,u2,u3,u4⟩:=(hS.mem.k (i:=0) rfl).four;go_simp;exact hS.o hK
  ·go_simp;exact hS.o hK
  ·have e1:=hS.f hN 1;simp only[e1]at hK⊢;obtain⟨u0,u1,u2,u3,u4,u5,u6⟩:=(hS.mem.k (i:=1) rfl).seven;go_simp;exact hS.o hK
  ·have e0:=hS.f hN 0;simp only[e0]at hK⊢;have e2:=hS.f hN 2;simp only[e2]at hK⊢;go_simp;go_at_call 93;refine(cmp_fix2 HCM.out rfl rfl (HQ5.out.below hS.mem.bel) (HV5.out.below hS.mem.bel)).mono ?_;rintro e9 w10 ⟨rfl,q⟩;exact hK.out _ _ (hS.val rfl (noStore_of rfl) q rfl)
  ·have e3:=hS.f hN 3;simp only[e3]at hK⊢;go_simp;exact hS.o hK
  ·have e4:=hS.f hN 4;simp only[e4]at hK⊢;go_simp;exact hS.o hK
  ·have e5:=hS.f hN 5;simp only[e5]at hK⊢;obtain⟨u0,u1,u2,u3,u4⟩:=(hS.mem.k (i:=2) rfl).fiveP;go_simp;exact hS.o hK
  ·have e5:=hS.f hN 5;simp only[e5]at hK⊢;go_simp;exact hS.o hK
  ·have e7:=hS.f hN 7;simp only[e7]at hK⊢;have e5:=hS.f hN 5;simp only[e5]at hK⊢;obtain⟨u0,u1,u2,u3,u4,u5,u6⟩:=(hS.mem.k (i:=1) rfl).seven;go_simp;exact hS.o hK
  ·have e5:=hS.f hN 5;simp only[e5]at hK⊢;go_simp;exact hS.o hK
  ·have e9:=hS.f hN 9;simp only[e9]at hK⊢;have e5:=hS.f hN 5;simp only[e5]at hK⊢;obtain⟨u0,u1,u2,u3,u4⟩:=(hS.mem.k (i:=2) rfl).fiveP;go_simp;exact hS.o hK
  ·have e6:=hS.f hN 6;simp only[e6]at hK⊢;have e8:=hS.f hN 8;simp only[e8]at hK⊢;have e10:=hS.f hN 10;simp only[e10]at hK⊢;have e5:=hS.f hN 5;simp only[e5]at hK⊢;go_simp;go_at_call 46;refine(HLE.out _ (below_trans q0 hS.mem.bel)).mono ?_;rintro e9 w10 ⟨q,A9,c9,B9,d9,rfl,hq9⟩;exact hK.out _ _ (hS.val rfl (noStore_of rfl) q ⟨_,A9,c9,B9,d9,rfl,rfl,hq9⟩)
  ·have e5:=hS.f hN 5;simp only[e5]at hK⊢;go_simp;exact hS.o hK
  ·have e12:=hS.f hN 12;simp only[e12]at hK⊢;have e5:=hS.f hN 5;simp only[e5]at hK⊢;obtain⟨u0,u1,u2,u3,u4,u5,u6⟩:=(hS.mem.k (i:=1) rfl).seven;go_simp;exact hS.o hK
  ·obtain⟨q11,A11,c11,B11,d11,o11,e11,h11⟩:=hS.val_at 11 rfl (by decide) (hN.out 11 rfl);simp only[e11]at hK⊢;have e13:=hS.f hN 13;simp only[e13]at hK⊢;have e5:=hS.f hN 5;simp only[e5]at hK⊢;go_simp;go_at_call 93;refine(cmp_fix2 HCM.out o11 rfl h11 (HV5.out.below hS.mem.bel)).mono ?_;rintro e9 w10 ⟨rfl,q⟩;exact hK.out _ _ (hS.val rfl (noStore_of rfl) q rfl)
  ·have e14:=hS.f hN 14;simp only[e14]at hK⊢;have e5:=hS.f hN 5;simp only[e5]at hK⊢;go_simp;exact hS.o hK
  ·have e5:=hS.f hN 5;simp only[e5]at hK⊢;have e15:=hS.f hN 15;simp only[e15]at hK⊢;go_simp;exact hS.o hK
  ·have e16:=hS.f hN 16;simp only[e16]at hK⊢;go_simp;exact hS.o hK
 intro L s w9 hall hS;have eL:s 17= .bool true:=hS.fx 17 rfl rfl (hall 17 (by decide));have q9:=hS.mem.bel;simp only[eL];have M9:=ZH (below_trans q0 q9);clear hS hall eL q9 M2 MR;go_wp2_with fail;exact bodyPost_ret (v:= .bool true) (by simp[results,Tryz.results54,go_sem]) rfl ⟨rfl,M9.out⟩
end Go.Proofs.YtpnmcacndjkfaaaGreat

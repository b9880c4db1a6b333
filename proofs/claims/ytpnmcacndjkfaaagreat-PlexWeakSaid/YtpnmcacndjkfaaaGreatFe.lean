import Derived.Test.YtpnmcacndjkfaaaGreatFc
set_option maxHeartbeats 40000000
set_option maxRecDepth 100000
set_option linter.unusedSimpArgs false
set_option linter.unusedVariables false
namespace Go.Proofs.YtpnmcacndjkfaaaGreat
open Go.RowKit Num
theorem cmpQ_le {a b:Rat} (h:a≤b):cmpQ a b≤0:=by
 have h2:=cmp_le h;exact Int.not_lt.1 (of_decide_eq_false h2)
theorem costZ_in {p:Pg} {x:List Int} (hn:Near p) (h64:p.lo.length≤64) (h:FitsZ p x): -9223372036854775808≤costZ p x∧costZ p x≤9223372036854775807:=by
 have h1:=sumF_bound (f:=fun j=>p.c.getD j 0*x.getD j 0) (B:=1099511627776) p.lo.length fun j hj=>mul_in (hn.c j hj) (by
  have a1:=h.lo j hj;have a2:=h.hi j hj;have a3:=hn.lo j hj;have a4:=hn.hi j hj;omega)
 unfold costZ;have h2:(p.lo.length:Int)≤64:=by omega
 have h3:1099511627776*(p.lo.length:Int)≤1099511627776*64:=Int.mul_le_mul_of_nonneg_left h2 (by decide);omega
theorem low_cost {p:Pg} {q:Rat} {x:List Int} (h:LowQ p q) (hf:FitsZ p x):q≤((costZ p x:Int):Rat):=by
 have:=h _ hf.fits;rw[rowM_int]at this;exact this
theorem small_sz {p:Pg} (h:smallPg p=true):PgSz p:=by
 unfold smallPg at h;rw[Bool.and_eq_true]at h;exact sz_fits h.1
theorem cmp_tup {w0:World} {q:Rat} {A B:Option Addr} {c d:Nat} {z:Rat} {k:Int} (hk:cmpQ q z=k) (hq:QR w0 A c B d q):∀{w':World} {q':Rat} {A' B':Option Addr} {c' d':Nat},Below w0.heap.size w0 w'→some z=some q'→QR w' A' c' B' d' q'→Calls Tryz.prog 17 #[qv q A c B d,qv q' A' c' B' d'] w' fun e w2=>e= .returned (.tuple #[.int .i64 k,.int .i64 0])∧Below w'.heap.size w' w2:=by
 intro w' q' A' B' c' d' hb h hq';cases h;subst hk;exact qcmp_rat (hq.below hb) hq'
theorem plexUnder_use (w:World) (m:Pa) (p:Pg) (hp:PgAt w m p) (A:Option Addr) (l:List Fr) (c:Nat) (h:GRow w A l) (X:Option Addr) (x:List Int) (cx:Nat) (hx:IRow w X x) (_h64:∀z∈x,-9223372036854775808≤z∧z≤9223372036854775807):Calls Tryz.prog 7 #[.agg (pgC m p),.slice A l.length c,.slice X x.length cx] w fun e w'=>e= .returned (.bool true)∧Below w.heap.size w w':=by
 have HP:=Lib.hid hp;have HG:=Lib.hid h;have HX:=Lib.hid hx;have M:=(Mem.start w).new tyR (pgC m p);have HB:=Lib.hid (fun (hz:PgSz p) (hs:l.length≤1000)=>both_bound hp hz h hs);have HSM:=Lib.hid (fun (w':World) (q:Below w.heap.size w w')=>psmall_any (hp.below q));have HRI:=Lib.hid (fun (w':World) (hz:PgSz p) (q:Below w.heap.size w w')=>rpright_any (hp.below q) hz);have HFE:=Lib.hid (fun (w':World) (q:Below w.heap.size w w')=>pfew_any (c:=c) (h.below q));clear hp h hx _h64;go_enter Tryz.func7,Tryz.ntmps7;go_wp2_with fail;refine (plalive_any _).mono ?_;rintro e w1 ⟨rfl,q1⟩;replace M:=M.below q1;obtain ⟨p0,p1,p2,p3,p4⟩:=(M.k (i:=0) rfl).fiveP;go_wp2_with fail;refine (HSM.out _ M.bel).mono ?_;rintro e w2 ⟨rfl,q2⟩;replace M:=M.below q2;clear p0 p1 p2 p3 p4 q1 q2;cases hsm:smallPg p with
 |false=>
  have HM:=Lib.hid M;go_wp2_with fail;exact bodyPost_ret (v:= .bool true) (by simp[results,Tryz.results7,go_sem]) rfl ⟨rfl,HM.out.bel⟩
 |true=>
  have HZ:=Lib.hid (small_sz hsm);clear hsm HSM;obtain ⟨p0,p1,p2,p3,p4⟩:=(M.k (i:=0) rfl).fiveP;go_wp2_with fail;refine (HRI.out _ HZ.out M.bel).mono ?_;rintro e w3 ⟨rfl,q3⟩;replace M:=M.below q3;clear q3 p0 p1 p2 p3 p4;cases hri:rightPg p with
  |false=>
   have HM:=Lib.hid M;go_wp2_with fail;exact bodyPost_ret (v:= .bool true) (by simp[results,Tryz.results7,go_sem]) rfl ⟨rfl,HM.out.bel⟩
  |true=>
   have HOK:=Lib.hid (ok_of_right hri);have HNE:=Lib.hid (near_of_right hri);clear hri HRI;go_wp2_with fail;refine (HFE.out _ M.bel).mono ?_;rintro e w4 ⟨rfl,q4⟩;replace M:=M.below q4;clear q4;cases hfe:fewG l with
   |false=>
    have HM:=Lib.hid M;go_wp2_with fail;exact bodyPost_ret (v:= .bool true) (by simp[results,Tryz.results7,go_sem]) rfl ⟨rfl,HM.out.bel⟩
   |true=>
    have hl2:=fewG_len hfe;obtain ⟨⟨n,xs,mm,ys,k⟩,⟨_,hlow⟩,hbb⟩:=HB.out HZ.out (by omega);have HBB:=Lib.hid hbb;have HLO:=Lib.hid hlow;clear hbb hlow HB HFE hfe;obtain ⟨p0,p1,p2,p3,p4⟩:=(M.k (i:=0) rfl).fiveP;go_wp2_with fail;refine (pcost_any (HP.out.below M.bel) HOK.out HNE.out (HX.out.below M.bel)).mono ?_;rintro e w5 ⟨⟨z,ok,rfl,hcz⟩,q5⟩;replace M:=M.below q5;have HCZ:=Lib.hid hcz;clear q5 hcz p0 p1 p2 p3 p4;obtain ⟨p0,p1,p2,p3,p4⟩:=(M.k (i:=0) rfl).fiveP;go_wp2_with fail;refine ptheirs_any.mono ?_;rintro e w6 ⟨rfl,q6⟩;replace M:=M.below q6;clear q6 p0 p1 p2 p3 p4;go_wp2_with fail;refine (rats_theirs (HG.out.below M.bel) (by omega)).mono ?_;rintro e w7 ⟨A7,c7,rfl,hg7,q7⟩;replace M:=M.below q7;clear q7;go_wp2_with fail;refine ((HBB.out _ A7 c7 M.bel hg7).1).mono ?_;rintro e w8 ⟨⟨A8,c8,B8,d8,rfl,h8,k8⟩,q8⟩;replace M:=((M.below q8).addR k8).addR h8;have l8:=(M.k (i:=0) rfl).lt;replace M:=M.new 33 #[.bool n,.slice A8 xs.length c8,.bool mm,.slice B8 ys.length d8];clear q8 h8 k8 hg7 HBB;cases ok with
    |false=>
     have HM:=Lib.hid M;go_wp2_with fail;exact bodyPost_ret (v:= .bool true) (by simp[results,Tryz.results7,go_sem]) rfl ⟨rfl,HM.out.bel⟩
    |true=>
     obtain ⟨hfz,hz⟩:=HCZ.out rfl;have HFZ:=Lib.hid hfz;clear HCZ;by_cases hk:k=0
     ·subst hk;obtain ⟨q,hq,hr,hlow⟩:=HLO.out rfl;cases hr;have HQ:Hid (QR _ A8 c8 B8 d8 q):=⟨M.r (i:=0) rfl,M.r (i:=1) rfl,hq⟩;have hci:=costZ_in HNE.out HOK.out.n HFZ.out;rw[←hz]at hci;have hle:=cmpQ_le (low_cost hlow HFZ.out);rw[←hz]at hle;obtain ⟨kc,hkc⟩:∃kc,cmpQ q ((z:Int):Rat)=kc:=⟨_,rfl⟩;rw[hkc]at hle;have HKC:=Lib.hid hkc;have HCI:=Lib.hid hci;have d1:decide (kc≤0)=true:=decide_eq_true hle;clear hle hkc hci hlow hz hfz HLO;go_upto_region 9 with fail;have HW:=Lib.hid M.bel;have MR:=M.rebase;clear M;refine region_st (n:=9) (frame:= ?frame1) (fun jK=>[.val (.fix (.agg #[.bool (sN q.num),.slice A8 (sD q.num).length c8,.bool false,.slice B8 (dig q.den).length d8])),.val (.fix (.int .i64 z)),.val (Sh.rq (some (z:Rat))),.val (.fix (.tuple #[.int .i64 kc,.int .i64 0])),.val (.fix (.tuple #[.int .i64 kc,.int .i64 0])),.val (.fix (.int .i64 kc)),.val (.fix (.int .i64 0)),.val (.fix (.int .i64 kc)),.val (.fix (.int .i64 0))].getD jK .none) [] (by kernel_rfl) (by kernel_rfl) (by kernel_rfl) rfl MR (fun _ h=>by cases h) (fun _ h=>by cases h) ?_ ?_ ?_
      case refine_1=>
       intro s;simp only[fr,Act.put,List.append_eq,List.cons_append,List.nil_append,List.setIfInBounds_toArray,List.set_cons_zero,List.set_cons_succ,Nat.reduceAdd];rfl
      case refine_2=>
       refine SC 0 1 rfl ?_ (SC 1 2 rfl ?_ (SC 2 3 rfl ?_ (SC 3 4 rfl ?_ (SC 4 5 rfl ?_ (SC 5 6 rfl ?_ (SC 6 7 rfl ?_ (SC 7 8 rfl ?_ (SC 8 9 rfl ?_ Steps.nil))))))));all_goals (intro L s w9 hN hU hi hS K hK;dsimp only at hK⊢;simp only[Act.put,List.setIfInBounds_toArray,List.set_cons_zero,List.set_cons_succ]at hK)
       ·obtain ⟨u1,u2,u3,u4⟩:=(hS.mem.k (i:=0) rfl).four;go_simp;exact hK.out _ _ (hS.v0 rfl rfl rfl)
       ·go_simp;exact hK.out _ _ (hS.v0 rfl rfl rfl)
       ·have e1:=hS.fx 1 rfl rfl (hN.out 1 rfl);simp only[e1]at hK⊢;go_simp;go_at_call 18;refine (pof_any HCI.out.1 HCI.out.2).mono ?_;rintro e9 w10 ⟨q,A9,c9,B9,d9,rfl,hq9⟩;exact hK.out _ _ (hS.val rfl (noStore_of rfl) q ⟨_,A9,c9,B9,d9,rfl,rfl,hq9⟩)
       ·have e0:=hS.fx 0 rfl rfl (hN.out 0 rfl);simp only[e0]at hK⊢;obtain ⟨q2,A2,c2,B2,d2,o2,e2,h2⟩:=hS.val_at 2 rfl (by decide) (hN.out 2 rfl);simp only[e2]at hK⊢;go_simp;go_at_call 17;refine (cmp_tup HKC.out HQ.out hS.mem.bel o2 h2).mono ?_;rintro e9 w10 ⟨rfl,q⟩;exact hK.out _ _ (hS.val rfl (noStore_of rfl) q rfl)
       ·have e3:=hS.fx 3 rfl rfl (hN.out 3 rfl);simp only[e3]at hK⊢;go_simp;exact hK.out _ _ (hS.v0 rfl rfl rfl)
       ·have e4:=hS.fx 4 rfl rfl (hN.out 4 rfl);simp only[e4]at hK⊢;go_simp;exact hK.out _ _ (hS.v0 rfl rfl rfl)
       ·have e4:=hS.fx 4 rfl rfl (hN.out 4 rfl);simp only[e4]at hK⊢;go_simp;exact hK.out _ _ (hS.v0 rfl rfl rfl)
       ·have e5:=hS.fx 5 rfl rfl (hN.out 5 rfl);simp only[e5]at hK⊢;go_simp;exact hK.out _ _ (hS.v0 rfl rfl rfl)
       ·have e6:=hS.fx 6 rfl rfl (hN.out 6 rfl);simp only[e6]at hK⊢;go_simp;exact hK.out _ _ (hS.v0 rfl rfl rfl)
      intro L s w9 hall hS;have e7:s 7= .int .i64 kc:=hS.fx 7 rfl rfl (hall 7 (by decide));have e8:s 8= .int .i64 0:=hS.fx 8 rfl rfl (hall 8 (by decide));have q9:=hS.mem.bel;simp only[e7,e8];have M9:=Lib.hid (below_trans HW.out q9);clear hS hall e7 e8 q9 MR;go_wp2_with fail;exact bodyPost_ret (v:= .bool true) (by simp[results,Tryz.results7,go_sem]) rfl ⟨rfl,M9.out⟩
     ·have d1:(k !=0)=true:=by simp[hk]
      clear hk;have HM:=Lib.hid M;go_wp2_with fail;exact bodyPost_ret (v:= .bool true) (by simp[results,Tryz.results7,go_sem]) rfl ⟨rfl,HM.out.bel⟩
end Go.Proofs.YtpnmcacndjkfaaaGreat

import Derived.Test.YtpnmcacndjkfaaaGreatFe
set_option maxHeartbeats 40000000
set_option maxRecDepth 100000
set_option linter.unusedSimpArgs false
set_option linter.unusedVariables false
namespace Go.Proofs.YtpnmcacndjkfaaaGreat
open Go.RowKit Num
abbrev an2 (k:Int) (AX:Option Addr) (cX:Nat) (AY:Option Addr) (lY cY:Nat):Array Value:= #[.int .i64 k,.slice AX 0 cX,.bool false,.slice none 0 0,.bool false,.slice none 0 0,.slice AY lY cY]
def SolvP (p:Pg) (w w':World) (e:Ending):Prop:=Below w.heap.size w w'∧
 ((∃(x y:List Rat) (v:Rat) (AX AY A B:Option Addr) (cX cY c d:Nat),e= .returned (.tuple #[.agg (anC 1 x y v AX cX AY cY A c B d),.int .i64 0])∧QRow w' AX x∧QRow w' AY y∧QR w' A c B d v∧x.length=p.lo.length∧Fits p (fun j=>x.getD j 0)∧Proof_ p (some p.c) y∧dotO 0 x p.c=some v∧boundQ p y (some p.c)=v∧rowM (fun j=>x.getD j 0) p.c p.lo.length 0=v)∨
  (∃(y:List Rat) (AX AY:Option Addr) (cX cY:Nat),e= .returned (.tuple #[.agg (an2 2 AX cX AY y.length cY),.int .i64 0])∧QRow w' AY y∧Proof_ p none y∧0<boundQ p y none)∨
  ∃(AX AY:Option Addr) (cX cY:Nat),e= .returned (.tuple #[.agg (an2 3 AX cX AY 0 cY),.int .i64 0]))
theorem solve_told {w:World} {m:Pa} {p:Pg} {n:Nat} (hp:PgAt w m p) (hz:PgSz p) (hb:rightPg p=true):Calls Tryz.prog 11 #[.agg (pgC m p),.int .i64 (n:Nat)] w fun e w'=>SolvP p w w' e:=by
 refine (solve_good hp hz hb).mono ?_;rintro e w' ⟨v,rfl,hav,hq⟩;refine ⟨hq,?_⟩;rcases solve_cases (P:=n) hb with ⟨x,y,q,h1,h2,h3,h4,h5,h6,h7⟩|⟨y,h1,h2,h3⟩|h1
 ·rw[h1]at hav;obtain ⟨AX,cX,AY,cY,k1,k2,A,c,B,d,rfl,k3⟩:=hav;exact .inl ⟨x,y,q,AX,AY,A,B,cX,cY,c,d,rfl,k1,k2,k3,h2,h3,h4,h5,h6,h7⟩
 ·rw[h1]at hav;obtain ⟨AX,cX,AY,cY,k1,k2,rfl⟩:=hav;exact .inr (.inl ⟨y,AX,AY,cX,cY,rfl,k2,h2,h3⟩)
 ·rw[h1]at hav;obtain ⟨AX,cX,AY,cY,k1,k2,rfl⟩:=hav;exact .inr (.inr ⟨AX,AY,cX,cY,rfl⟩)
theorem cmp_zero {w:World} {q:Rat} {A B:Option Addr} {c d:Nat} (h:QR w A c B d q):Calls Tryz.prog 17 #[.agg z4,qv q A c B d] w fun e w2=>e= .returned (.tuple #[.int .i64 0,.int .i64 2])∧Below w.heap.size w w2:=by
 have:=qcmp_any (n:=false) (m:=false) (n':=sN q.num) (m':=false) (Rd.nil (w:=w)) (Rd.nil (w:=w)) h.num h.den;have e:qcmpR false [] false [] (sN q.num) (sD q.num) false (dig q.den)=(0,2):=by
  unfold qcmpR;rw[qright_nil,Bool.false_and];rfl
 rw[e]at this;exact this
theorem plexWeak_use (w:World) (m:Pa) (p:Pg) (hp:PgAt w m p) (A:Option Addr) (l:List Fr) (c:Nat) (h:GRow w A l):Calls Tryz.prog 8 #[.agg (pgC m p),.slice A l.length c] w fun e w'=>e= .returned (.bool true)∧Below w.heap.size w w':=by
 have HP:=Lib.hid hp;have HG:=Lib.hid h;have M:=(Mem.start w).new tyR (pgC m p);have HB:=Lib.hid (fun (hz:PgSz p) (hs:l.length≤1000)=>both_bound hp hz h hs);have HSM:=Lib.hid (fun (w':World) (q:Below w.heap.size w w')=>psmall_any (hp.below q));have HRI:=Lib.hid (fun (w':World) (hz:PgSz p) (q:Below w.heap.size w w')=>rpright_any (hp.below q) hz);have HFE:=Lib.hid (fun (w':World) (q:Below w.heap.size w w')=>pfew_any (c:=c) (h.below q));clear hp h;go_enter Tryz.func8,Tryz.ntmps8;go_wp2_with fail;refine (plalive_any _).mono ?_;rintro e w1 ⟨rfl,q1⟩;replace M:=M.below q1;obtain ⟨p0,p1,p2,p3,p4⟩:=(M.k (i:=0) rfl).fiveP;go_wp2_with fail;refine (HSM.out _ M.bel).mono ?_;rintro e w2 ⟨rfl,q2⟩;replace M:=M.below q2;clear p0 p1 p2 p3 p4 q1 q2;cases hsm:smallPg p with
 |false=>
  have HM:=Lib.hid M;go_wp2_with fail;exact bodyPost_ret (v:= .bool true) (by simp[results,Tryz.results8,go_sem]) rfl ⟨rfl,HM.out.bel⟩
 |true=>
  have HZ:=Lib.hid (small_sz hsm);clear hsm HSM;obtain ⟨p0,p1,p2,p3,p4⟩:=(M.k (i:=0) rfl).fiveP;go_wp2_with fail;refine (HRI.out _ HZ.out M.bel).mono ?_;rintro e w3 ⟨rfl,q3⟩;replace M:=M.below q3;clear q3 p0 p1 p2 p3 p4;cases hri:rightPg p with
  |false=>
   have HM:=Lib.hid M;go_wp2_with fail;exact bodyPost_ret (v:= .bool true) (by simp[results,Tryz.results8,go_sem]) rfl ⟨rfl,HM.out.bel⟩
  |true=>
   have HSO:=Lib.hid (fun (w':World) (q:Below w.heap.size w w')=>solve_told (n:=10000) (HP.out.below q) HZ.out hri);clear hri HRI;go_wp2_with fail;refine (HFE.out _ M.bel).mono ?_;rintro e w4 ⟨rfl,q4⟩;replace M:=M.below q4;clear q4;cases hfe:fewG l with
   |false=>
    have HM:=Lib.hid M;go_wp2_with fail;exact bodyPost_ret (v:= .bool true) (by simp[results,Tryz.results8,go_sem]) rfl ⟨rfl,HM.out.bel⟩
   |true=>
    have hl2:=fewG_len hfe;obtain ⟨⟨n,xs,mm,ys,k⟩,⟨_,hlow⟩,hbb⟩:=HB.out HZ.out (by omega);have HBB:=Lib.hid hbb;have HLO:=Lib.hid hlow;clear hbb hlow HB HFE hfe;obtain ⟨p0,p1,p2,p3,p4⟩:=(M.k (i:=0) rfl).fiveP;go_wp2_with fail;refine ptheirs_any.mono ?_;rintro e w6 ⟨rfl,q6⟩;replace M:=M.below q6;clear q6 p0 p1 p2 p3 p4;go_wp2_with fail;refine (rats_theirs (HG.out.below M.bel) (by omega)).mono ?_;rintro e w7 ⟨A7,c7,rfl,hg7,q7⟩;replace M:=M.below q7;clear q7;go_wp2_with fail;refine ((HBB.out _ A7 c7 M.bel hg7).1).mono ?_;rintro e w8 ⟨⟨A8,c8,B8,d8,rfl,h8,k8⟩,q8⟩;replace M:=((M.below q8).addR k8).addR h8;have l8:=(M.k (i:=0) rfl).lt;replace M:=M.new 33 #[.bool n,.slice A8 xs.length c8,.bool mm,.slice B8 ys.length d8];clear q8 h8 k8 hg7 HBB;obtain ⟨p0,p1,p2,p3,p4⟩:=(M.k (i:=1) rfl).fiveP;go_wp2_with fail;refine ptheirs_any.mono ?_;rintro e w9 ⟨rfl,q9⟩;replace M:=M.below q9;clear q9 p0 p1 p2 p3 p4;go_wp2_with fail;refine (HSO.out _ M.bel).mono ?_;rintro e w10 ⟨q10,⟨x,y,v,AX,AY,Av,Bv,cX,cY,cv,dv,rfl,_,_,hv,hxl,hfi,_,_,_,hrv⟩|⟨y,AX,AY,cX,cY,rfl,_⟩|⟨AX,AY,cX,cY,rfl⟩⟩
    ·replace M:=M.below q10;have l10:=(M.k (i:=0) rfl).lt;have HV:=Lib.hid (hv.below (below_alloc1 w10 (.cells (anC 1 x y v AX cX AY cY Av cv Bv dv) tyA)));replace M:=M.new tyA (anC 1 x y v AX cX AY cY Av cv Bv dv);have HFI:=Lib.hid hfi;have HRV:=Lib.hid hrv;clear q10 hv hxl hfi hrv;obtain ⟨x0,x1,x2,x3,x4,x5,x6⟩:=(M.k (i:=0) rfl).seven;obtain ⟨y1,y2,y3,y4⟩:=(M.k (i:=1) rfl).four;by_cases hk:k=0
     ·subst hk;obtain ⟨q,hq,hr,hlow⟩:=HLO.out rfl;cases hr;have HQ:Hid (QR _ A8 c8 B8 d8 q):=⟨M.r (i:=0) rfl,M.r (i:=1) rfl,hq⟩;have hle:=hlow _ HFI.out;rw[HRV.out]at hle;have hcl:=cmpQ_le hle;obtain ⟨kc,hkc⟩:∃kc,cmpQ q v=kc:=⟨_,rfl⟩;rw[hkc]at hcl;have HCM:=Lib.hid (qcmp_rat HQ.out HV.out);rw[hkc]at HCM;have HW:=Lib.hid M.bel;have d1:decide (kc≤0)=true:=decide_eq_true hcl;clear hcl hkc hle hlow HLO HFI HRV M;go_wp2_with fail;refine HCM.out.mono ?_;rintro e w11 ⟨rfl,q11⟩;have M9:=Lib.hid (below_trans HW.out q11);go_wp2_with fail;exact bodyPost_ret (v:= .bool true) (by simp[results,Tryz.results8,go_sem]) rfl ⟨rfl,M9.out⟩
     ·have d1:(k !=0)=true:=by simp[hk]
      clear hk;have HM:=Lib.hid M;go_wp2_with fail;exact bodyPost_ret (v:= .bool true) (by simp[results,Tryz.results8,go_sem]) rfl ⟨rfl,HM.out.bel⟩
    ·replace M:=(M.below q10).new tyA (an2 2 AX cX AY y.length cY);obtain ⟨x0,x1,x2,x3,x4,x5,x6⟩:=(M.k (i:=0) rfl).seven;by_cases hk:k=0
     ·subst hk;have HM:=Lib.hid M;go_wp2_with fail;exact bodyPost_ret (v:= .bool true) (by simp[results,Tryz.results8,go_sem]) rfl ⟨rfl,HM.out.bel⟩
     ·have d1:(k !=0)=true:=by simp[hk]
      clear hk;have HM:=Lib.hid M;go_wp2_with fail;exact bodyPost_ret (v:= .bool true) (by simp[results,Tryz.results8,go_sem]) rfl ⟨rfl,HM.out.bel⟩
    ·replace M:=(M.below q10).new tyA (an2 3 AX cX AY 0 cY);obtain ⟨x0,x1,x2,x3,x4,x5,x6⟩:=(M.k (i:=0) rfl).seven;by_cases hk:k=0
     ·subst hk;have HM:=Lib.hid M;go_wp2_with fail;exact bodyPost_ret (v:= .bool true) (by simp[results,Tryz.results8,go_sem]) rfl ⟨rfl,HM.out.bel⟩
     ·have d1:(k !=0)=true:=by simp[hk]
      clear hk;have HM:=Lib.hid M;go_wp2_with fail;exact bodyPost_ret (v:= .bool true) (by simp[results,Tryz.results8,go_sem]) rfl ⟨rfl,HM.out.bel⟩
theorem plexLeast_use (w:World) (m:Pa) (p:Pg) (hp:PgAt w m p) (X:Option Addr) (x:List Int) (cx:Nat) (hx:IRow w X x) (_h64:∀z∈x,-9223372036854775808≤z∧z≤9223372036854775807):Calls Tryz.prog 4 #[.agg (pgC m p),.slice X x.length cx] w fun e w'=>e= .returned (.bool true)∧Below w.heap.size w w':=by
 have HP:=Lib.hid hp;have HX:=Lib.hid hx;have M:=(Mem.start w).new tyR (pgC m p);have HSM:=Lib.hid (fun (w':World) (q:Below w.heap.size w w')=>psmall_any (hp.below q));have HRI:=Lib.hid (fun (w':World) (hz:PgSz p) (q:Below w.heap.size w w')=>rpright_any (hp.below q) hz);clear hp hx _h64;go_enter Tryz.func4,Tryz.ntmps4;go_wp2_with fail;refine (plalive_any _).mono ?_;rintro e w1 ⟨rfl,q1⟩;replace M:=M.below q1;obtain ⟨p0,p1,p2,p3,p4⟩:=(M.k (i:=0) rfl).fiveP;go_wp2_with fail;refine (HSM.out _ M.bel).mono ?_;rintro e w2 ⟨rfl,q2⟩;replace M:=M.below q2;clear p0 p1 p2 p3 p4 q1 q2;cases hsm:smallPg p with
 |false=>
  have HM:=Lib.hid M;go_wp2_with fail;exact bodyPost_ret (v:= .bool true) (by simp[results,Tryz.results4,go_sem]) rfl ⟨rfl,HM.out.bel⟩
 |true=>
  have HZ:=Lib.hid (small_sz hsm);clear hsm HSM;obtain ⟨p0,p1,p2,p3,p4⟩:=(M.k (i:=0) rfl).fiveP;go_wp2_with fail;refine (HRI.out _ HZ.out M.bel).mono ?_;rintro e w3 ⟨rfl,q3⟩;replace M:=M.below q3;clear q3 p0 p1 p2 p3 p4;cases hri:rightPg p with
  |false=>
   have HM:=Lib.hid M;go_wp2_with fail;exact bodyPost_ret (v:= .bool true) (by simp[results,Tryz.results4,go_sem]) rfl ⟨rfl,HM.out.bel⟩
  |true=>
   have HSO:=Lib.hid (fun (w':World) (q:Below w.heap.size w w')=>solve_told (n:=10000) (HP.out.below q) HZ.out hri);have HOK:=Lib.hid (ok_of_right hri);have HNE:=Lib.hid (near_of_right hri);clear hri HRI;obtain ⟨p0,p1,p2,p3,p4⟩:=(M.k (i:=0) rfl).fiveP;go_wp2_with fail;refine (pcost_any (HP.out.below M.bel) HOK.out HNE.out (HX.out.below M.bel)).mono ?_;rintro e w5 ⟨⟨z,ok,rfl,hcz⟩,q5⟩;replace M:=M.below q5;have HCZ:=Lib.hid hcz;clear q5 hcz p0 p1 p2 p3 p4;obtain ⟨p0,p1,p2,p3,p4⟩:=(M.k (i:=0) rfl).fiveP;go_wp2_with fail;refine ptheirs_any.mono ?_;rintro e w9 ⟨rfl,q9⟩;replace M:=M.below q9;clear q9 p0 p1 p2 p3 p4;go_wp2_with fail;refine (HSO.out _ M.bel).mono ?_;rintro e w10 ⟨q10,⟨xq,y,v,AX,AY,Av,Bv,cX,cY,cv,dv,rfl,_,_,hv,hxl,hfi,hpy,_,hbv,hrv⟩|⟨y,AX,AY,cX,cY,rfl,_,hpy,hbv⟩|⟨AX,AY,cX,cY,rfl⟩⟩
   ·clear hxl;replace M:=M.below q10;have l10:=(M.k (i:=0) rfl).lt;have HV:=Lib.hid (hv.below (below_alloc1 w10 (.cells (anC 1 xq y v AX cX AY cY Av cv Bv dv) tyA)));replace M:=M.new tyA (anC 1 xq y v AX cX AY cY Av cv Bv dv);obtain ⟨x0,x1,x2,x3,x4,x5,x6⟩:=(M.k (i:=0) rfl).seven;cases ok with
    |false=>
     have HM:=Lib.hid M;go_wp2_with fail;exact bodyPost_ret (v:= .bool true) (by simp[results,Tryz.results4,go_sem]) rfl ⟨rfl,HM.out.bel⟩
    |true=>
     obtain ⟨hfz,hz⟩:=HCZ.out rfl;have hci:=costZ_in HNE.out HOK.out.n hfz;rw[←hz]at hci;have hle:=weak (c:=some p.c) HOK.out.hi HOK.out.b.symm hpy.pos hpy.len hfz.fits;rw[hbv]at hle;have hle2:v≤((z:Int):Rat):=by
      have e:rowC (fun j=>((x.getD j 0:Int):Rat)) (some p.c) p.lo.length 0=((costZ p x:Int):Rat):=rowM_int _ _ _;rw[e,←hz]at hle;exact hle
     have hcl:=cmpQ_le hle2;obtain ⟨kc,hkc⟩:∃kc,cmpQ v ((z:Int):Rat)=kc:=⟨_,rfl⟩;rw[hkc]at hcl;have HKC:=Lib.hid hkc;have HCI:=Lib.hid hci;have d1:decide (kc≤0)=true:=decide_eq_true hcl;clear hcl hkc hle hle2 hci hz hfz HCZ hbv hrv hpy hfi hv q10 x0 x1 x2 x3 x4 x5 x6;go_upto_region 11 with fail;have HW:=Lib.hid M.bel;have MR:=M.rebase;refine region_st (n:=10) (frame:= ?frame1) (fun jK=>[.val (.fix (.pointer (some ⟨w10.heap.size,2,none⟩))),.val (.fix (qv v Av cv Bv dv)),.val (.fix (.int .i64 z)),.val (Sh.rq (some (z:Rat))),.val (.fix (.tuple #[.int .i64 kc,.int .i64 0])),.val (.fix (.tuple #[.int .i64 kc,.int .i64 0])),.val (.fix (.int .i64 kc)),.val (.fix (.int .i64 0)),.val (.fix (.int .i64 kc)),.val (.fix (.int .i64 0))].getD jK .none) [] (by kernel_rfl) (by kernel_rfl) (by kernel_rfl) rfl MR (fun _ h=>by cases h) (fun _ h=>by cases h) ?_ ?_ ?_
     case refine_1=>
      intro s;simp only[fr,Act.put,List.append_eq,List.cons_append,List.nil_append,List.setIfInBounds_toArray,List.set_cons_zero,List.set_cons_succ,Nat.reduceAdd];rfl
     case refine_2=>
      refine SC 0 1 rfl ?_ (SC 1 2 rfl ?_ (SC 2 3 rfl ?_ (SC 3 4 rfl ?_ (SC 4 5 rfl ?_ (SC 5 6 rfl ?_ (SC 6 7 rfl ?_ (SC 7 8 rfl ?_ (SC 8 9 rfl ?_ (SC 9 10 rfl ?_ Steps.nil)))))))));all_goals (intro L s w9 hN hU hi hS K hK;dsimp only at hK⊢;simp only[Act.put,List.setIfInBounds_toArray,List.set_cons_zero,List.set_cons_succ]at hK)
      ·go_simp;exact hK.out _ _ (hS.v0 rfl rfl rfl)
      ·have e0:=hS.fx 0 rfl rfl (hN.out 0 rfl);simp only[e0]at hK⊢;obtain ⟨u0,u1,u2,u3,u4,u5,u6⟩:=(hS.mem.k (i:=0) rfl).seven;go_simp;exact hK.out _ _ (hS.v0 rfl rfl rfl)
      ·go_simp;exact hK.out _ _ (hS.v0 rfl rfl rfl)
      ·have e2:=hS.fx 2 rfl rfl (hN.out 2 rfl);simp only[e2]at hK⊢;go_simp;go_at_call 18;refine (pof_any HCI.out.1 HCI.out.2).mono ?_;rintro e9 w10 ⟨q,A9,c9,B9,d9,rfl,hq9⟩;exact hK.out _ _ (hS.val rfl (noStore_of rfl) q ⟨_,A9,c9,B9,d9,rfl,rfl,hq9⟩)
      ·have e1:=hS.fx 1 rfl rfl (hN.out 1 rfl);simp only[e1]at hK⊢;obtain ⟨q3,A3,c3,B3,d3,o3,e3,h3⟩:=hS.val_at 3 rfl (by decide) (hN.out 3 rfl);simp only[e3]at hK⊢;go_simp;go_at_call 17;refine (cmp_tup HKC.out HV.out hS.mem.bel o3 h3).mono ?_;rintro e9 w10 ⟨rfl,q⟩;exact hK.out _ _ (hS.val rfl (noStore_of rfl) q rfl)
      ·have e4:=hS.fx 4 rfl rfl (hN.out 4 rfl);simp only[e4]at hK⊢;go_simp;exact hK.out _ _ (hS.v0 rfl rfl rfl)
      ·have e5:=hS.fx 5 rfl rfl (hN.out 5 rfl);simp only[e5]at hK⊢;go_simp;exact hK.out _ _ (hS.v0 rfl rfl rfl)
      ·have e5:=hS.fx 5 rfl rfl (hN.out 5 rfl);simp only[e5]at hK⊢;go_simp;exact hK.out _ _ (hS.v0 rfl rfl rfl)
      ·have e6:=hS.fx 6 rfl rfl (hN.out 6 rfl);simp only[e6]at hK⊢;go_simp;exact hK.out _ _ (hS.v0 rfl rfl rfl)
      ·have e7:=hS.fx 7 rfl rfl (hN.out 7 rfl);simp only[e7]at hK⊢;go_simp;exact hK.out _ _ (hS.v0 rfl rfl rfl)
     intro L s w9 hall hS;have e7:s 8= .int .i64 kc:=hS.fx 8 rfl rfl (hall 8 (by decide));have e8:s 9= .int .i64 0:=hS.fx 9 rfl rfl (hall 9 (by decide));have q9:=hS.mem.bel;simp only[e7,e8];have M9:=M.below q9;have HM9:=Lib.hid M9.bel;obtain ⟨x0,x1,x2,x3,x4,x5,x6⟩:=(M9.k (i:=0) rfl).seven;clear hS hall e7 e8 q9 MR M M9;go_wp2_with fail;exact bodyPost_ret (v:= .bool true) (by simp[results,Tryz.results4,go_sem]) rfl ⟨rfl,HM9.out⟩
   ·replace M:=(M.below q10).new tyA (an2 2 AX cX AY y.length cY);obtain ⟨x0,x1,x2,x3,x4,x5,x6⟩:=(M.k (i:=0) rfl).seven;cases ok with
    |false=>
     have HM:=Lib.hid M;go_wp2_with fail;exact bodyPost_ret (v:= .bool true) (by simp[results,Tryz.results4,go_sem]) rfl ⟨rfl,HM.out.bel⟩
    |true=>
     exfalso;obtain ⟨hfz,_⟩:=HCZ.out rfl;have hle:=weak (c:=none) HOK.out.hi HOK.out.b.symm hpy.pos hpy.len hfz.fits;have e:rowC (fun j=>((x.getD j 0:Int):Rat)) none p.lo.length 0=0:=rfl;rw[e]at hle;exact absurd (Std.lt_of_lt_of_le hbv hle) Rat.lt_irrefl
   ·replace M:=M.below q10;have l10:=(M.k (i:=0) rfl).lt;replace M:=M.new tyA (an2 3 AX cX AY 0 cY);obtain ⟨x0,x1,x2,x3,x4,x5,x6⟩:=(M.k (i:=0) rfl).seven;cases ok with
    |false=>
     have HM:=Lib.hid M;go_wp2_with fail;exact bodyPost_ret (v:= .bool true) (by simp[results,Tryz.results4,go_sem]) rfl ⟨rfl,HM.out.bel⟩
    |true=>
     obtain ⟨hfz,hz⟩:=HCZ.out rfl;have hci:=costZ_in HNE.out HOK.out.n hfz;rw[←hz]at hci;have HCI:=Lib.hid hci;clear hci hz hfz HCZ q10 x0 x1 x2 x3 x4 x5 x6;go_upto_region 11 with fail;have HW:=Lib.hid M.bel;have MR:=M.rebase;refine region_st (n:=10) (frame:= ?frame2) (fun jK=>[.val (.fix (.pointer (some ⟨w10.heap.size,2,none⟩))),.val (.fix (.agg z4)),.val (.fix (.int .i64 z)),.val (Sh.rq (some (z:Rat))),.val (.fix (.tuple #[.int .i64 0,.int .i64 2])),.val (.fix (.tuple #[.int .i64 0,.int .i64 2])),.val (.fix (.int .i64 0)),.val (.fix (.int .i64 2)),.val (.fix (.int .i64 0)),.val (.fix (.int .i64 2))].getD jK .none) [] (by kernel_rfl) (by kernel_rfl) (by kernel_rfl) rfl MR (fun _ h=>by cases h) (fun _ h=>by cases h) ?_ ?_ ?_
     case refine_1=>
      intro s;simp only[fr,Act.put,List.append_eq,List.cons_append,List.nil_append,List.setIfInBounds_toArray,List.set_cons_zero,List.set_cons_succ,Nat.reduceAdd];rfl
     case refine_2=>
      refine SC 0 1 rfl ?_ (SC 1 2 rfl ?_ (SC 2 3 rfl ?_ (SC 3 4 rfl ?_ (SC 4 5 rfl ?_ (SC 5 6 rfl ?_ (SC 6 7 rfl ?_ (SC 7 8 rfl ?_ (SC 8 9 rfl ?_ (SC 9 10 rfl ?_ Steps.nil)))))))));all_goals (intro L s w9 hN hU hi hS K hK;dsimp only at hK⊢;simp only[Act.put,List.setIfInBounds_toArray,List.set_cons_zero,List.set_cons_succ]at hK)
      ·go_simp;exact hK.out _ _ (hS.v0 rfl rfl rfl)
      ·have e0:=hS.fx 0 rfl rfl (hN.out 0 rfl);simp only[e0]at hK⊢;obtain ⟨u0,u1,u2,u3,u4,u5,u6⟩:=(hS.mem.k (i:=0) rfl).seven;go_simp;exact hK.out _ _ (hS.v0 rfl rfl rfl)
      ·go_simp;exact hK.out _ _ (hS.v0 rfl rfl rfl)
      ·have e2:=hS.fx 2 rfl rfl (hN.out 2 rfl);simp only[e2]at hK⊢;go_simp;go_at_call 18;refine (pof_any HCI.out.1 HCI.out.2).mono ?_;rintro e9 w10 ⟨q,A9,c9,B9,d9,rfl,hq9⟩;exact hK.out _ _ (hS.val rfl (noStore_of rfl) q ⟨_,A9,c9,B9,d9,rfl,rfl,hq9⟩)
      ·have e1:=hS.fx 1 rfl rfl (hN.out 1 rfl);simp only[e1]at hK⊢;obtain ⟨q3,A3,c3,B3,d3,o3,e3,h3⟩:=hS.val_at 3 rfl (by decide) (hN.out 3 rfl);simp only[e3]at hK⊢;go_simp;go_at_call 17;refine (cmp_zero h3).mono ?_;rintro e9 w10 ⟨rfl,q⟩;exact hK.out _ _ (hS.val rfl (noStore_of rfl) q rfl)
      ·have e4:=hS.fx 4 rfl rfl (hN.out 4 rfl);simp only[e4]at hK⊢;go_simp;exact hK.out _ _ (hS.v0 rfl rfl rfl)
      ·have e5:=hS.fx 5 rfl rfl (hN.out 5 rfl);simp only[e5]at hK⊢;go_simp;exact hK.out _ _ (hS.v0 rfl rfl rfl)
      ·have e5:=hS.fx 5 rfl rfl (hN.out 5 rfl);simp only[e5]at hK⊢;go_simp;exact hK.out _ _ (hS.v0 rfl rfl rfl)
      ·have e6:=hS.fx 6 rfl rfl (hN.out 6 rfl);simp only[e6]at hK⊢;go_simp;exact hK.out _ _ (hS.v0 rfl rfl rfl)
      ·have e7:=hS.fx 7 rfl rfl (hN.out 7 rfl);simp only[e7]at hK⊢;go_simp;exact hK.out _ _ (hS.v0 rfl rfl rfl)
     intro L s w9 hall hS;have e7:s 8= .int .i64 0:=hS.fx 8 rfl rfl (hall 8 (by decide));have e8:s 9= .int .i64 2:=hS.fx 9 rfl rfl (hall 9 (by decide));have q9:=hS.mem.bel;simp only[e7,e8];have M9:=M.below q9;have HM9:=Lib.hid M9.bel;obtain ⟨x0,x1,x2,x3,x4,x5,x6⟩:=(M9.k (i:=0) rfl).seven;clear hS hall e7 e8 q9 MR M M9;go_wp2_with fail;exact bodyPost_ret (v:= .bool true) (by simp[results,Tryz.results4,go_sem]) rfl ⟨rfl,HM9.out⟩
end Go.Proofs.YtpnmcacndjkfaaaGreat

import Derived.Test.YtjlhjabgclflcaaGreatDoorVq
set_option maxHeartbeats 40000000
set_option maxRecDepth 100000
set_option linter.unusedSimpArgs false
set_option linter.unusedVariables false
namespace Go.Proofs.YtjlhjabgclflcaaGreatDoor
open Go.RowKit Num Go.Joins
theorem goalS_eq (k:Int) (nm:List UInt8) (b:Bool) (dm:List (Int×Int)) (sz:Int) (o:Bool) (vs:List Ex) (ak:Int):goalS ⟨k,nm,b,dm,sz,o,vs,ak⟩=if ak=0 then (wSolve++[32]++wSatisfy++[59],(dm.length==0&&(sz==0&& !o))&&(!b&&(vs.length==0&&nm==[]))) else if ak=1 then (wSolMin++nm++[59],(dm.length==0&&(sz==0&& !o))&&(!b&&(vs.length==0&&nameB nm))) else if ak=2 then (wSolve++[32]++wMaximize++[32]++nm++[59],(dm.length==0&&(sz==0&& !o))&&(!b&&(vs.length==0&&nameB nm))) else ([],false):=by
 unfold goalS;have h1:dm.isEmpty=(dm.length==0):=by cases dm<;>rfl
 have h2:vs.isEmpty=(vs.length==0):=by cases vs<;>rfl
 dsimp only;rw[h1,h2]
theorem int_ne0' {n m:Int} (h:¬n=m):(n==m)=false:=by simp[h]
theorem vgoal_sat (k:Int) (nm:List UInt8) (b:Bool) (dm:List (Int×Int)) (n3:Nat) (A3:Option Addr) (sz:Int) (o:Bool) (vs:List Ex) (n6:Nat) (A6:Option Addr) (w:World) (hE:Env w) (hnm:nm.length≤10000):Calls Tryz.prog 77 #[.agg #[.int .i64 k,.string ⟨nm.toArray⟩,.bool b,.slice A3 dm.length n3,.int .i64 sz,.bool o,.slice A6 vs.length n6,.int .i64 0]] w fun e w'=>e= .returned (TXV (goalS ⟨k,nm,b,dm,sz,o,vs,0⟩))∧Below w.heap.size w w':=by
 have hF:=goalS_eq k nm b dm sz o vs 0;generalize dm.length=d at*;generalize vs.length=v at*;have HB:=Lib.hid (vbare_any k ⟨nm.toArray⟩ b d n3 A3 sz o v n6 A6 0);have hbz:(d==0&&(sz==0&&(!o&&(0:Int)==0)))=(d==0&&(sz==0&& !o)):=by simp
 rw[hbz]at HB;have HF:=Lib.hid hF;clear hF;generalize (d==0&&(sz==0&& !o))=bb at*;have M0:Mem w ((w.alloc (.cells #[.int .i64 k,.string ⟨nm.toArray⟩,.bool b,.slice A3 d n3,.int .i64 sz,.bool o,.slice A6 v n6,.int .i64 0] 97)).alloc (.cells #[.int .i64 k,.string ⟨nm.toArray⟩,.bool b,.slice A3 d n3,.int .i64 sz,.bool o,.slice A6 v n6,.int .i64 0] 97)) [(w.heap.size+1,97,#[.int .i64 k,.string ⟨nm.toArray⟩,.bool b,.slice A3 d n3,.int .i64 sz,.bool o,.slice A6 v n6,.int .i64 0]),(w.heap.size,97,#[.int .i64 k,.string ⟨nm.toArray⟩,.bool b,.slice A3 d n3,.int .i64 sz,.bool o,.slice A6 v n6,.int .i64 0])] []:=((Mem.start w).new 97 _).newAt (by simp) 97 _;go_enter Tryz.func77,Tryz.ntmps77;go_wp2_with fail;refine (HB.out _).mono ?_;rintro e w1 ⟨rfl,q1⟩;have M:=M0.below q1;clear M0 q1 HB;obtain ⟨m1,m2,m3,m4,m5,m6,m7,m8⟩:=Blk.eight (M.k (i:=1) rfl);obtain ⟨y1,y2,y3,y4,y5,y6,y7,y8⟩:=Blk.eight (M.k (i:=0) rfl);cases bb with
 |false=>
  have HV:=Lib.hid (show (v==0)=(v==0) from rfl);go_wp2_with fail;go_quiet (fail);go_wp2_with fail;refine bodyPost_ret (v:= .tuple #[.string ⟨(wSolve++[32]++wSatisfy++[59]).toArray⟩,.bool false]) (by simp[results,Tryz.results77,go_sem,wSolve,wSatisfy]) rfl ⟨?_,below_dn M.bel _⟩;rw[HF.out];first|rfl|(rw[HV.out];rfl)
 |true=>
  cases b with
  |true=>
   have HV:=Lib.hid (show (v==0)=(v==0) from rfl);go_wp2_with fail;go_quiet (fail);go_wp2_with fail;refine bodyPost_ret (v:= .tuple #[.string ⟨(wSolve++[32]++wSatisfy++[59]).toArray⟩,.bool false]) (by simp[results,Tryz.results77,go_sem,wSolve,wSatisfy]) rfl ⟨?_,below_dn M.bel _⟩;rw[HF.out];first|rfl|(rw[HV.out];rfl)
  |false=>
   by_cases hv:v=0
   ·subst hv;have HV:=Lib.hid (show (0==0)=true from rfl);go_wp2_with fail;go_quiet (fail);go_wp2_with fail;refine bodyPost_ret (v:= .tuple #[.string ⟨(wSolve++[32]++wSatisfy++[59]).toArray⟩,.bool (nm==[])]) (by simp[results,Tryz.results77,go_sem,wSolve,wSatisfy]) rfl ⟨?_,below_dn M.bel _⟩;rw[HF.out];rfl
   ·have hv1:=nat_ne0 hv;have HV:=Lib.hid (show (v==0)=false by simp[hv]);go_wp2_with fail;go_quiet (fail);go_wp2_with fail;refine bodyPost_ret (v:= .tuple #[.string ⟨(wSolve++[32]++wSatisfy++[59]).toArray⟩,.bool false]) (by simp[results,Tryz.results77,go_sem,wSolve,wSatisfy]) rfl ⟨?_,below_dn M.bel _⟩;rw[HF.out];first|rfl|(rw[HV.out];rfl)
theorem vgoal_oth (k:Int) (nm:List UInt8) (b:Bool) (dm:List (Int×Int)) (n3:Nat) (A3:Option Addr) (sz:Int) (o:Bool) (vs:List Ex) (n6:Nat) (A6:Option Addr) (ak:Int) (w:World) (hE:Env w) (hnm:nm.length≤10000) (h0:¬ak=0):Calls Tryz.prog 77 #[.agg #[.int .i64 k,.string ⟨nm.toArray⟩,.bool b,.slice A3 dm.length n3,.int .i64 sz,.bool o,.slice A6 vs.length n6,.int .i64 ak]] w fun e w'=>e= .returned (TXV (goalS ⟨k,nm,b,dm,sz,o,vs,ak⟩))∧Below w.heap.size w w':=by
 have hF:=goalS_eq k nm b dm sz o vs ak;generalize dm.length=d at*;generalize vs.length=v at*;have HN:=Lib.hid (vname_any ⟨nm.toArray⟩);have hX1:∀B,(Value.tuple #[.string ((⟨#[115,111,108,118,101,32,109,105,110,105,109,105,122,101,32]⟩:ByteArray)++⟨nm.toArray⟩++⟨#[59]⟩),.bool B])=TXV (wSolMin++nm++[59],B):=fun B=>by
  have h:((⟨#[115,111,108,118,101,32,109,105,110,105,109,105,122,101,32]⟩:ByteArray)++⟨nm.toArray⟩++⟨#[59]⟩)=⟨(wSolMin++nm++[59]).toArray⟩:=by
   apply ByteArray.ext;simp[wSolMin]
  unfold TXV;rw[h]
 have hX2:∀B,(Value.tuple #[.string ((⟨#[115,111,108,118,101,32,109,97,120,105,109,105,122,101,32]⟩:ByteArray)++⟨nm.toArray⟩++⟨#[59]⟩),.bool B])=TXV (wSolve++[32]++wMaximize++[32]++nm++[59],B):=fun B=>by
  have h:((⟨#[115,111,108,118,101,32,109,97,120,105,109,105,122,101,32]⟩:ByteArray)++⟨nm.toArray⟩++⟨#[59]⟩)=⟨(wSolve++[32]++wMaximize++[32]++nm++[59]).toArray⟩:=by
   apply ByteArray.ext;simp[wSolve,wMaximize]
  unfold TXV;rw[h]
 have hNl:=name_len hnm;have hnb:nameB (⟨nm.toArray⟩:ByteArray).data.toList=nameB nm:=rfl;rw[hnb]at HN;have HB:=Lib.hid (vbare_any k ⟨nm.toArray⟩ b d n3 A3 sz o v n6 A6 0);have hbz:(d==0&&(sz==0&&(!o&&(0:Int)==0)))=(d==0&&(sz==0&& !o)):=by simp
 rw[hbz]at HB;generalize (⟨nm.toArray⟩:ByteArray)=N at*;have hz1:Hid (¬9223372036854775807<15+N.size):=by show ¬_;omega
 have hz2:Hid (¬9223372036854775807<15+N.size+1):=by show ¬_;omega
 clear hNl hnm hnb hbz;have HF:=Lib.hid hF;have HX1:=Lib.hid hX1;have HX2:=Lib.hid hX2;clear hF hX1 hX2;generalize (d==0&&(sz==0&& !o))=bb at*;generalize nameB nm=nb at*;have M0:Mem w ((w.alloc (.cells #[.int .i64 k,.string N,.bool b,.slice A3 d n3,.int .i64 sz,.bool o,.slice A6 v n6,.int .i64 ak] 97)).alloc (.cells #[.int .i64 k,.string N,.bool b,.slice A3 d n3,.int .i64 sz,.bool o,.slice A6 v n6,.int .i64 0] 97)) [(w.heap.size+1,97,#[.int .i64 k,.string N,.bool b,.slice A3 d n3,.int .i64 sz,.bool o,.slice A6 v n6,.int .i64 0]),(w.heap.size,97,#[.int .i64 k,.string N,.bool b,.slice A3 d n3,.int .i64 sz,.bool o,.slice A6 v n6,.int .i64 ak])] []:=((Mem.start w).new 97 _).newAt (by simp) 97 _;have h0':=int_ne0' h0;go_enter Tryz.func77,Tryz.ntmps77;go_wp2_with fail;refine (HB.out _).mono ?_;rintro e w1 ⟨rfl,q1⟩;have M:=M0.below q1;clear M0 q1 HB;obtain ⟨m1,m2,m3,m4,m5,m6,m7,m8⟩:=Blk.eight (M.k (i:=1) rfl);obtain ⟨y1,y2,y3,y4,y5,y6,y7,y8⟩:=Blk.eight (M.k (i:=0) rfl);cases bb with
 |false=>
  have HV:=Lib.hid (show (v==0)=(v==0) from rfl);by_cases a1:ak=1
  ·subst a1;go_upto_region 8 with fail;clear m1 m2 m3 m4 m5 m6 m7 m8 y1 y2 y3 y4 y5 y6 y7 y8;refine region_st (n:=12) (frame:= ?frame1) (fun jK=>[.val (.fix (.pointer (some ⟨w.heap.size,1,none⟩))),.val (.fix (.string N)),.val (.fix (.string (⟨#[115,111,108,118,101,32,109,105,110,105,109,105,122,101,32]⟩++N))),.val (.fix (.string (⟨#[115,111,108,118,101,32,109,105,110,105,109,105,122,101,32]⟩++N++⟨#[59]⟩))),.val (.fix (.bool false)),.val (.fix (.bool false)),.none,.none,.none,.val (.fix (.bool false)),.val (.fix (.string (⟨#[115,111,108,118,101,32,109,105,110,105,109,105,122,101,32]⟩++N++⟨#[59]⟩))),.val (.fix (.bool false))].getD jK .none) [] (by kernel_rfl) (by kernel_rfl) (by kernel_rfl) rfl M (fun _ h=>by cases h) (fun _ h=>by cases h) ?_ ?_ ?_
   case refine_1=>
    intro s;simp only[fr,Act.put,List.append_eq,List.cons_append,List.nil_append,List.setIfInBounds_toArray,List.set_cons_zero,List.set_cons_succ,Nat.reduceAdd];rfl
   case refine_2=>
    refine SC 0 1 rfl ?_ (SC 1 2 rfl ?_ (SC 2 3 rfl ?_ (SC 3 4 rfl ?_ (SC 4 5 rfl ?_ (SC 5 6 rfl ?_ (SC 6 7 rfl ?_ (SC 7 8 rfl ?_ (SC 8 9 rfl ?_ (SC 9 10 rfl ?_ (SC 10 11 rfl ?_ (SC 11 12 rfl ?_ Steps.nil)))))))))));all_goals (intro L s w9 hN hU hi hS K hK;dsimp only at hK⊢;simp only[Act.put,List.setIfInBounds_toArray,List.set_cons_zero,List.set_cons_succ]at hK)
    ·go_simp;exact hK.out _ _ (hS.v0 rfl rfl rfl)
    ·have e0:=hS.fx 0 rfl rfl (hN.out 0 rfl);simp only[e0]at hK⊢;obtain ⟨u1,u2,u3,u4,u5,u6,u7,u8⟩:=Blk.eight (hS.mem.k (i:=1) rfl);go_simp;exact hK.out _ _ (hS.v0 rfl rfl rfl)
    ·have e1:=hS.fx 1 rfl rfl (hN.out 1 rfl);simp only[e1]at hK⊢;have z1:=hz1.out;go_simp;exact hK.out _ _ (hS.v0 rfl rfl rfl)
    ·have e2:=hS.fx 2 rfl rfl (hN.out 2 rfl);simp only[e2]at hK⊢;have z1:=hz2.out;go_simp;exact hK.out _ _ (hS.v0 rfl rfl rfl)
    ·go_simp;exact hK.out _ _ (hS.v0 rfl rfl rfl)
    ·have e4:=hS.fx 4 rfl rfl (hN.out 4 rfl);simp only[e4]at hK⊢;go_simp;exact hK.out _ _ (hS.v0 rfl rfl rfl)
    ·have e5:=hS.fx 5 rfl rfl (hN.out 5 rfl);simp only[e5]at hK⊢;go_simp;exact hK.out undef _ (hS.k0 rfl rfl)
    ·have e5:=hS.fx 5 rfl rfl (hN.out 5 rfl);simp only[e5]at hK⊢;go_simp;exact hK.out undef _ (hS.k0 rfl rfl)
    ·have e5:=hS.fx 5 rfl rfl (hN.out 5 rfl);simp only[e5]at hK⊢;go_simp;exact hK.out undef _ (hS.k0 rfl rfl)
    ·have e5:=hS.fx 5 rfl rfl (hN.out 5 rfl);simp only[e5]at hK⊢;go_simp;exact hK.out _ _ (hS.v0 rfl rfl rfl)
    ·have e3:=hS.fx 3 rfl rfl (hN.out 3 rfl);simp only[e3]at hK⊢;go_simp;exact hK.out _ _ (hS.v0 rfl rfl rfl)
    ·have e9:=hS.fx 9 rfl rfl (hN.out 9 rfl);simp only[e9]at hK⊢;go_simp;exact hK.out _ _ (hS.v0 rfl rfl rfl)
   intro L s w9 hall hS;have eS:s 10= .string (⟨#[115,111,108,118,101,32,109,105,110,105,109,105,122,101,32]⟩++N++⟨#[59]⟩):=hS.val_at 10 rfl (by decide) (hall 10 (by decide));have eB:s 11= .bool false:=hS.val_at 11 rfl (by decide) (hall 11 (by decide));go_wp2;refine bodyPost_ret (v:= .tuple #[.string (⟨#[115,111,108,118,101,32,109,105,110,105,109,105,122,101,32]⟩++N++⟨#[59]⟩),.bool false]) (by simp[results,Tryz.results77,go_sem,eS,eB]) rfl ⟨?_,hS.mem.bel⟩;rw[HX1.out,HF.out];first|rfl|(rw[HV.out];rfl)
  ·have a1':=int_ne0' a1;by_cases a2:ak=2
   ·subst a2;go_upto_region 10 with fail;clear m1 m2 m3 m4 m5 m6 m7 m8 y1 y2 y3 y4 y5 y6 y7 y8;refine region_st (n:=12) (frame:= ?frame2) (fun jK=>[.val (.fix (.pointer (some ⟨w.heap.size,1,none⟩))),.val (.fix (.string N)),.val (.fix (.string (⟨#[115,111,108,118,101,32,109,97,120,105,109,105,122,101,32]⟩++N))),.val (.fix (.string (⟨#[115,111,108,118,101,32,109,97,120,105,109,105,122,101,32]⟩++N++⟨#[59]⟩))),.val (.fix (.bool false)),.val (.fix (.bool false)),.none,.none,.none,.val (.fix (.bool false)),.val (.fix (.string (⟨#[115,111,108,118,101,32,109,97,120,105,109,105,122,101,32]⟩++N++⟨#[59]⟩))),.val (.fix (.bool false))].getD jK .none) [] (by kernel_rfl) (by kernel_rfl) (by kernel_rfl) rfl M (fun _ h=>by cases h) (fun _ h=>by cases h) ?_ ?_ ?_
    case refine_1=>
     intro s;simp only[fr,Act.put,List.append_eq,List.cons_append,List.nil_append,List.setIfInBounds_toArray,List.set_cons_zero,List.set_cons_succ,Nat.reduceAdd];rfl
    case refine_2=>
     refine SC 0 1 rfl ?_ (SC 1 2 rfl ?_ (SC 2 3 rfl ?_ (SC 3 4 rfl ?_ (SC 4 5 rfl ?_ (SC 5 6 rfl ?_ (SC 6 7 rfl ?_ (SC 7 8 rfl ?_ (SC 8 9 rfl ?_ (SC 9 10 rfl ?_ (SC 10 11 rfl ?_ (SC 11 12 rfl ?_ Steps.nil)))))))))));all_goals (intro L s w9 hN hU hi hS K hK;dsimp only at hK⊢;simp only[Act.put,List.setIfInBounds_toArray,List.set_cons_zero,List.set_cons_succ]at hK)
     ·go_simp;exact hK.out _ _ (hS.v0 rfl rfl rfl)
     ·have e0:=hS.fx 0 rfl rfl (hN.out 0 rfl);simp only[e0]at hK⊢;obtain ⟨u1,u2,u3,u4,u5,u6,u7,u8⟩:=Blk.eight (hS.mem.k (i:=1) rfl);go_simp;exact hK.out _ _ (hS.v0 rfl rfl rfl)
     ·have e1:=hS.fx 1 rfl rfl (hN.out 1 rfl);simp only[e1]at hK⊢;have z1:=hz1.out;go_simp;exact hK.out _ _ (hS.v0 rfl rfl rfl)
     ·have e2:=hS.fx 2 rfl rfl (hN.out 2 rfl);simp only[e2]at hK⊢;have z1:=hz2.out;go_simp;exact hK.out _ _ (hS.v0 rfl rfl rfl)
     ·go_simp;exact hK.out _ _ (hS.v0 rfl rfl rfl)
     ·have e4:=hS.fx 4 rfl rfl (hN.out 4 rfl);simp only[e4]at hK⊢;go_simp;exact hK.out _ _ (hS.v0 rfl rfl rfl)
     ·have e5:=hS.fx 5 rfl rfl (hN.out 5 rfl);simp only[e5]at hK⊢;go_simp;exact hK.out undef _ (hS.k0 rfl rfl)
     ·have e5:=hS.fx 5 rfl rfl (hN.out 5 rfl);simp only[e5]at hK⊢;go_simp;exact hK.out undef _ (hS.k0 rfl rfl)
     ·have e5:=hS.fx 5 rfl rfl (hN.out 5 rfl);simp only[e5]at hK⊢;go_simp;exact hK.out undef _ (hS.k0 rfl rfl)
     ·have e5:=hS.fx 5 rfl rfl (hN.out 5 rfl);simp only[e5]at hK⊢;go_simp;exact hK.out _ _ (hS.v0 rfl rfl rfl)
     ·have e3:=hS.fx 3 rfl rfl (hN.out 3 rfl);simp only[e3]at hK⊢;go_simp;exact hK.out _ _ (hS.v0 rfl rfl rfl)
     ·have e9:=hS.fx 9 rfl rfl (hN.out 9 rfl);simp only[e9]at hK⊢;go_simp;exact hK.out _ _ (hS.v0 rfl rfl rfl)
    intro L s w9 hall hS;have eS:s 10= .string (⟨#[115,111,108,118,101,32,109,97,120,105,109,105,122,101,32]⟩++N++⟨#[59]⟩):=hS.val_at 10 rfl (by decide) (hall 10 (by decide));have eB:s 11= .bool false:=hS.val_at 11 rfl (by decide) (hall 11 (by decide));go_wp2;refine bodyPost_ret (v:= .tuple #[.string (⟨#[115,111,108,118,101,32,109,97,120,105,109,105,122,101,32]⟩++N++⟨#[59]⟩),.bool false]) (by simp[results,Tryz.results77,go_sem,eS,eB]) rfl ⟨?_,hS.mem.bel⟩;rw[HX2.out,HF.out];first|rfl|(rw[HV.out];rfl)
   ·have a2':=int_ne0' a2;have HZ:=Lib.hid (show goalS _=([],false) from HF.out.trans ((if_neg h0).trans ((if_neg a1).trans (if_neg a2))));go_wp2_with fail;refine bodyPost_ret (v:=TXV ([],false)) (by simp[results,Tryz.results77,go_sem,TXV]) rfl ⟨by rw[HZ.out],M.bel⟩
 |true=>
  cases b with
  |true=>
   have HV:=Lib.hid (show (v==0)=(v==0) from rfl);by_cases a1:ak=1
   ·subst a1;go_upto_region 8 with fail;clear m1 m2 m3 m4 m5 m6 m7 m8 y1 y2 y3 y4 y5 y6 y7 y8;refine region_st (n:=12) (frame:= ?frame3) (fun jK=>[.val (.fix (.pointer (some ⟨w.heap.size,1,none⟩))),.val (.fix (.string N)),.val (.fix (.string (⟨#[115,111,108,118,101,32,109,105,110,105,109,105,122,101,32]⟩++N))),.val (.fix (.string (⟨#[115,111,108,118,101,32,109,105,110,105,109,105,122,101,32]⟩++N++⟨#[59]⟩))),.val (.fix (.bool false)),.val (.fix (.bool false)),.none,.none,.none,.val (.fix (.bool false)),.val (.fix (.string (⟨#[115,111,108,118,101,32,109,105,110,105,109,105,122,101,32]⟩++N++⟨#[59]⟩))),.val (.fix (.bool false))].getD jK .none) [] (by kernel_rfl) (by kernel_rfl) (by kernel_rfl) rfl M (fun _ h=>by cases h) (fun _ h=>by cases h) ?_ ?_ ?_
    case refine_1=>
     intro s;simp only[fr,Act.put,List.append_eq,List.cons_append,List.nil_append,List.setIfInBounds_toArray,List.set_cons_zero,List.set_cons_succ,Nat.reduceAdd];rfl
    case refine_2=>
     refine SC 0 1 rfl ?_ (SC 1 2 rfl ?_ (SC 2 3 rfl ?_ (SC 3 4 rfl ?_ (SC 4 5 rfl ?_ (SC 5 6 rfl ?_ (SC 6 7 rfl ?_ (SC 7 8 rfl ?_ (SC 8 9 rfl ?_ (SC 9 10 rfl ?_ (SC 10 11 rfl ?_ (SC 11 12 rfl ?_ Steps.nil)))))))))));all_goals (intro L s w9 hN hU hi hS K hK;dsimp only at hK⊢;simp only[Act.put,List.setIfInBounds_toArray,List.set_cons_zero,List.set_cons_succ]at hK)
     ·go_simp;exact hK.out _ _ (hS.v0 rfl rfl rfl)
     ·have e0:=hS.fx 0 rfl rfl (hN.out 0 rfl);simp only[e0]at hK⊢;obtain ⟨u1,u2,u3,u4,u5,u6,u7,u8⟩:=Blk.eight (hS.mem.k (i:=1) rfl);go_simp;exact hK.out _ _ (hS.v0 rfl rfl rfl)
     ·have e1:=hS.fx 1 rfl rfl (hN.out 1 rfl);simp only[e1]at hK⊢;have z1:=hz1.out;go_simp;exact hK.out _ _ (hS.v0 rfl rfl rfl)
     ·have e2:=hS.fx 2 rfl rfl (hN.out 2 rfl);simp only[e2]at hK⊢;have z1:=hz2.out;go_simp;exact hK.out _ _ (hS.v0 rfl rfl rfl)
     ·go_simp;exact hK.out _ _ (hS.v0 rfl rfl rfl)
     ·have e4:=hS.fx 4 rfl rfl (hN.out 4 rfl);simp only[e4]at hK⊢;go_simp;exact hK.out _ _ (hS.v0 rfl rfl rfl)
     ·have e5:=hS.fx 5 rfl rfl (hN.out 5 rfl);simp only[e5]at hK⊢;go_simp;exact hK.out undef _ (hS.k0 rfl rfl)
     ·have e5:=hS.fx 5 rfl rfl (hN.out 5 rfl);simp only[e5]at hK⊢;go_simp;exact hK.out undef _ (hS.k0 rfl rfl)
     ·have e5:=hS.fx 5 rfl rfl (hN.out 5 rfl);simp only[e5]at hK⊢;go_simp;exact hK.out undef _ (hS.k0 rfl rfl)
     ·have e5:=hS.fx 5 rfl rfl (hN.out 5 rfl);simp only[e5]at hK⊢;go_simp;exact hK.out _ _ (hS.v0 rfl rfl rfl)
     ·have e3:=hS.fx 3 rfl rfl (hN.out 3 rfl);simp only[e3]at hK⊢;go_simp;exact hK.out _ _ (hS.v0 rfl rfl rfl)
     ·have e9:=hS.fx 9 rfl rfl (hN.out 9 rfl);simp only[e9]at hK⊢;go_simp;exact hK.out _ _ (hS.v0 rfl rfl rfl)
    intro L s w9 hall hS;have eS:s 10= .string (⟨#[115,111,108,118,101,32,109,105,110,105,109,105,122,101,32]⟩++N++⟨#[59]⟩):=hS.val_at 10 rfl (by decide) (hall 10 (by decide));have eB:s 11= .bool false:=hS.val_at 11 rfl (by decide) (hall 11 (by decide));go_wp2;refine bodyPost_ret (v:= .tuple #[.string (⟨#[115,111,108,118,101,32,109,105,110,105,109,105,122,101,32]⟩++N++⟨#[59]⟩),.bool false]) (by simp[results,Tryz.results77,go_sem,eS,eB]) rfl ⟨?_,hS.mem.bel⟩;rw[HX1.out,HF.out];first|rfl|(rw[HV.out];rfl)
   ·have a1':=int_ne0' a1;by_cases a2:ak=2
    ·subst a2;go_upto_region 10 with fail;clear m1 m2 m3 m4 m5 m6 m7 m8 y1 y2 y3 y4 y5 y6 y7 y8;refine region_st (n:=12) (frame:= ?frame4) (fun jK=>[.val (.fix (.pointer (some ⟨w.heap.size,1,none⟩))),.val (.fix (.string N)),.val (.fix (.string (⟨#[115,111,108,118,101,32,109,97,120,105,109,105,122,101,32]⟩++N))),.val (.fix (.string (⟨#[115,111,108,118,101,32,109,97,120,105,109,105,122,101,32]⟩++N++⟨#[59]⟩))),.val (.fix (.bool false)),.val (.fix (.bool false)),.none,.none,.none,.val (.fix (.bool false)),.val (.fix (.string (⟨#[115,111,108,118,101,32,109,97,120,105,109,105,122,101,32]⟩++N++⟨#[59]⟩))),.val (.fix (.bool false))].getD jK .none) [] (by kernel_rfl) (by kernel_rfl) (by kernel_rfl) rfl M (fun _ h=>by cases h) (fun _ h=>by cases h) ?_ ?_ ?_
     case refine_1=>
      intro s;simp only[fr,Act.put,List.append_eq,List.cons_append,List.nil_append,List.setIfInBounds_toArray,List.set_cons_zero,List.set_cons_succ,Nat.reduceAdd];rfl
     case refine_2=>
      refine SC 0 1 rfl ?_ (SC 1 2 rfl ?_ (SC 2 3 rfl ?_ (SC 3 4 rfl ?_ (SC 4 5 rfl ?_ (SC 5 6 rfl ?_ (SC 6 7 rfl ?_ (SC 7 8 rfl ?_ (SC 8 9 rfl ?_ (SC 9 10 rfl ?_ (SC 10 11 rfl ?_ (SC 11 12 rfl ?_ Steps.nil)))))))))));all_goals (intro L s w9 hN hU hi hS K hK;dsimp only at hK⊢;simp only[Act.put,List.setIfInBounds_toArray,List.set_cons_zero,List.set_cons_succ]at hK)
      ·go_simp;exact hK.out _ _ (hS.v0 rfl rfl rfl)
      ·have e0:=hS.fx 0 rfl rfl (hN.out 0 rfl);simp only[e0]at hK⊢;obtain ⟨u1,u2,u3,u4,u5,u6,u7,u8⟩:=Blk.eight (hS.mem.k (i:=1) rfl);go_simp;exact hK.out _ _ (hS.v0 rfl rfl rfl)
      ·have e1:=hS.fx 1 rfl rfl (hN.out 1 rfl);simp only[e1]at hK⊢;have z1:=hz1.out;go_simp;exact hK.out _ _ (hS.v0 rfl rfl rfl)
      ·have e2:=hS.fx 2 rfl rfl (hN.out 2 rfl);simp only[e2]at hK⊢;have z1:=hz2.out;go_simp;exact hK.out _ _ (hS.v0 rfl rfl rfl)
      ·go_simp;exact hK.out _ _ (hS.v0 rfl rfl rfl)
      ·have e4:=hS.fx 4 rfl rfl (hN.out 4 rfl);simp only[e4]at hK⊢;go_simp;exact hK.out _ _ (hS.v0 rfl rfl rfl)
      ·have e5:=hS.fx 5 rfl rfl (hN.out 5 rfl);simp only[e5]at hK⊢;go_simp;exact hK.out undef _ (hS.k0 rfl rfl)
      ·have e5:=hS.fx 5 rfl rfl (hN.out 5 rfl);simp only[e5]at hK⊢;go_simp;exact hK.out undef _ (hS.k0 rfl rfl)
      ·have e5:=hS.fx 5 rfl rfl (hN.out 5 rfl);simp only[e5]at hK⊢;go_simp;exact hK.out undef _ (hS.k0 rfl rfl)
      ·have e5:=hS.fx 5 rfl rfl (hN.out 5 rfl);simp only[e5]at hK⊢;go_simp;exact hK.out _ _ (hS.v0 rfl rfl rfl)
      ·have e3:=hS.fx 3 rfl rfl (hN.out 3 rfl);simp only[e3]at hK⊢;go_simp;exact hK.out _ _ (hS.v0 rfl rfl rfl)
      ·have e9:=hS.fx 9 rfl rfl (hN.out 9 rfl);simp only[e9]at hK⊢;go_simp;exact hK.out _ _ (hS.v0 rfl rfl rfl)
     intro L s w9 hall hS;have eS:s 10= .string (⟨#[115,111,108,118,101,32,109,97,120,105,109,105,122,101,32]⟩++N++⟨#[59]⟩):=hS.val_at 10 rfl (by decide) (hall 10 (by decide));have eB:s 11= .bool false:=hS.val_at 11 rfl (by decide) (hall 11 (by decide));go_wp2;refine bodyPost_ret (v:= .tuple #[.string (⟨#[115,111,108,118,101,32,109,97,120,105,109,105,122,101,32]⟩++N++⟨#[59]⟩),.bool false]) (by simp[results,Tryz.results77,go_sem,eS,eB]) rfl ⟨?_,hS.mem.bel⟩;rw[HX2.out,HF.out];first|rfl|(rw[HV.out];rfl)
    ·have a2':=int_ne0' a2;have HZ:=Lib.hid (show goalS _=([],false) from HF.out.trans ((if_neg h0).trans ((if_neg a1).trans (if_neg a2))));go_wp2_with fail;refine bodyPost_ret (v:=TXV ([],false)) (by simp[results,Tryz.results77,go_sem,TXV]) rfl ⟨by rw[HZ.out],M.bel⟩
  |false=>
   by_cases hv:v=0
   ·subst hv;have HV:=Lib.hid (show (0==0)=true from rfl);by_cases a1:ak=1
    ·subst a1;go_upto_region 8 with fail;clear m1 m2 m3 m4 m5 m6 m7 m8 y1 y2 y3 y4 y5 y6 y7 y8;refine region_st (n:=12) (frame:= ?frame5) (fun jK=>[.val (.fix (.pointer (some ⟨w.heap.size,1,none⟩))),.val (.fix (.string N)),.val (.fix (.string (⟨#[115,111,108,118,101,32,109,105,110,105,109,105,122,101,32]⟩++N))),.val (.fix (.string (⟨#[115,111,108,118,101,32,109,105,110,105,109,105,122,101,32]⟩++N++⟨#[59]⟩))),.val (.fix (.bool true)),.val (.fix (.bool true)),.val (.fix (.pointer (some ⟨w.heap.size,1,none⟩))),.val (.fix (.string N)),.val (.fix (.bool nb)),.val (.fix (.bool nb)),.val (.fix (.string (⟨#[115,111,108,118,101,32,109,105,110,105,109,105,122,101,32]⟩++N++⟨#[59]⟩))),.val (.fix (.bool nb))].getD jK .none) [] (by kernel_rfl) (by kernel_rfl) (by kernel_rfl) rfl M (fun _ h=>by cases h) (fun _ h=>by cases h) ?_ ?_ ?_
     case refine_1=>
      intro s;simp only[fr,Act.put,List.append_eq,List.cons_append,List.nil_append,List.setIfInBounds_toArray,List.set_cons_zero,List.set_cons_succ,Nat.reduceAdd];rfl
     case refine_2=>
      refine SC 0 1 rfl ?_ (SC 1 2 rfl ?_ (SC 2 3 rfl ?_ (SC 3 4 rfl ?_ (SC 4 5 rfl ?_ (SC 5 6 rfl ?_ (SC 6 7 rfl ?_ (SC 7 8 rfl ?_ (SC 8 9 rfl ?_ (SC 9 10 rfl ?_ (SC 10 11 rfl ?_ (SC 11 12 rfl ?_ Steps.nil)))))))))));all_goals (intro L s w9 hN hU hi hS K hK;dsimp only at hK⊢;simp only[Act.put,List.setIfInBounds_toArray,List.set_cons_zero,List.set_cons_succ]at hK)
      ·go_simp;exact hK.out _ _ (hS.v0 rfl rfl rfl)
      ·have e0:=hS.fx 0 rfl rfl (hN.out 0 rfl);simp only[e0]at hK⊢;obtain ⟨u1,u2,u3,u4,u5,u6,u7,u8⟩:=Blk.eight (hS.mem.k (i:=1) rfl);go_simp;exact hK.out _ _ (hS.v0 rfl rfl rfl)
      ·have e1:=hS.fx 1 rfl rfl (hN.out 1 rfl);simp only[e1]at hK⊢;have z1:=hz1.out;go_simp;exact hK.out _ _ (hS.v0 rfl rfl rfl)
      ·have e2:=hS.fx 2 rfl rfl (hN.out 2 rfl);simp only[e2]at hK⊢;have z1:=hz2.out;go_simp;exact hK.out _ _ (hS.v0 rfl rfl rfl)
      ·go_simp;exact hK.out _ _ (hS.v0 rfl rfl rfl)
      ·have e4:=hS.fx 4 rfl rfl (hN.out 4 rfl);simp only[e4]at hK⊢;go_simp;exact hK.out _ _ (hS.v0 rfl rfl rfl)
      ·have e5:=hS.fx 5 rfl rfl (hN.out 5 rfl);simp only[e5]at hK⊢;go_simp;exact hK.out _ _ (hS.v0 rfl rfl rfl)
      ·have e6:=hS.fx 6 rfl rfl (hN.out 6 rfl);simp only[e6]at hK⊢;have e5:=hS.fx 5 rfl rfl (hN.out 5 rfl);simp only[e5]at hK⊢;obtain ⟨u1,u2,u3,u4,u5,u6,u7,u8⟩:=Blk.eight (hS.mem.k (i:=1) rfl);go_simp;exact hK.out _ _ (hS.v0 rfl rfl rfl)
      ·have e7:=hS.fx 7 rfl rfl (hN.out 7 rfl);simp only[e7]at hK⊢;have e5:=hS.fx 5 rfl rfl (hN.out 5 rfl);simp only[e5]at hK⊢;go_simp;go_at_call 108;refine (HN.out _ (hE.below hS.mem.bel)).mono ?_;rintro e9 w10 ⟨rfl,q⟩;exact hK.out _ _ (hS.val rfl (noStore_of rfl) q rfl)
      ·have e5:=hS.fx 5 rfl rfl (hN.out 5 rfl);simp only[e5]at hK⊢;have e8:=hS.fx 8 rfl rfl (hN.out 8 rfl);simp only[e8]at hK⊢;go_simp;exact hK.out _ _ (hS.v0 rfl rfl rfl)
      ·have e3:=hS.fx 3 rfl rfl (hN.out 3 rfl);simp only[e3]at hK⊢;go_simp;exact hK.out _ _ (hS.v0 rfl rfl rfl)
      ·have e9:=hS.fx 9 rfl rfl (hN.out 9 rfl);simp only[e9]at hK⊢;go_simp;exact hK.out _ _ (hS.v0 rfl rfl rfl)
     intro L s w9 hall hS;have eS:s 10= .string (⟨#[115,111,108,118,101,32,109,105,110,105,109,105,122,101,32]⟩++N++⟨#[59]⟩):=hS.val_at 10 rfl (by decide) (hall 10 (by decide));have eB:s 11= .bool nb:=hS.val_at 11 rfl (by decide) (hall 11 (by decide));go_wp2;refine bodyPost_ret (v:= .tuple #[.string (⟨#[115,111,108,118,101,32,109,105,110,105,109,105,122,101,32]⟩++N++⟨#[59]⟩),.bool nb]) (by simp[results,Tryz.results77,go_sem,eS,eB]) rfl ⟨?_,hS.mem.bel⟩;rw[HX1.out,HF.out];first|rfl|(rw[HV.out];rfl)
    ·have a1':=int_ne0' a1;by_cases a2:ak=2
     ·subst a2;go_upto_region 10 with fail;clear m1 m2 m3 m4 m5 m6 m7 m8 y1 y2 y3 y4 y5 y6 y7 y8;refine region_st (n:=12) (frame:= ?frame6) (fun jK=>[.val (.fix (.pointer (some ⟨w.heap.size,1,none⟩))),.val (.fix (.string N)),.val (.fix (.string (⟨#[115,111,108,118,101,32,109,97,120,105,109,105,122,101,32]⟩++N))),.val (.fix (.string (⟨#[115,111,108,118,101,32,109,97,120,105,109,105,122,101,32]⟩++N++⟨#[59]⟩))),.val (.fix (.bool true)),.val (.fix (.bool true)),.val (.fix (.pointer (some ⟨w.heap.size,1,none⟩))),.val (.fix (.string N)),.val (.fix (.bool nb)),.val (.fix (.bool nb)),.val (.fix (.string (⟨#[115,111,108,118,101,32,109,97,120,105,109,105,122,101,32]⟩++N++⟨#[59]⟩))),.val (.fix (.bool nb))].getD jK .none) [] (by kernel_rfl) (by kernel_rfl) (by kernel_rfl) rfl M (fun _ h=>by cases h) (fun _ h=>by cases h) ?_ ?_ ?_
      case refine_1=>
       intro s;simp only[fr,Act.put,List.append_eq,List.cons_append,List.nil_append,List.setIfInBounds_toArray,List.set_cons_zero,List.set_cons_succ,Nat.reduceAdd];rfl
      case refine_2=>
       refine SC 0 1 rfl ?_ (SC 1 2 rfl ?_ (SC 2 3 rfl ?_ (SC 3 4 rfl ?_ (SC 4 5 rfl ?_ (SC 5 6 rfl ?_ (SC 6 7 rfl ?_ (SC 7 8 rfl ?_ (SC 8 9 rfl ?_ (SC 9 10 rfl ?_ (SC 10 11 rfl ?_ (SC 11 12 rfl ?_ Steps.nil)))))))))));all_goals (intro L s w9 hN hU hi hS K hK;dsimp only at hK⊢;simp only[Act.put,List.setIfInBounds_toArray,List.set_cons_zero,List.set_cons_succ]at hK)
       ·go_simp;exact hK.out _ _ (hS.v0 rfl rfl rfl)
       ·have e0:=hS.fx 0 rfl rfl (hN.out 0 rfl);simp only[e0]at hK⊢;obtain ⟨u1,u2,u3,u4,u5,u6,u7,u8⟩:=Blk.eight (hS.mem.k (i:=1) rfl);go_simp;exact hK.out _ _ (hS.v0 rfl rfl rfl)
       ·have e1:=hS.fx 1 rfl rfl (hN.out 1 rfl);simp only[e1]at hK⊢;have z1:=hz1.out;go_simp;exact hK.out _ _ (hS.v0 rfl rfl rfl)
       ·have e2:=hS.fx 2 rfl rfl (hN.out 2 rfl);simp only[e2]at hK⊢;have z1:=hz2.out;go_simp;exact hK.out _ _ (hS.v0 rfl rfl rfl)
       ·go_simp;exact hK.out _ _ (hS.v0 rfl rfl rfl)
       ·have e4:=hS.fx 4 rfl rfl (hN.out 4 rfl);simp only[e4]at hK⊢;go_simp;exact hK.out _ _ (hS.v0 rfl rfl rfl)
       ·have e5:=hS.fx 5 rfl rfl (hN.out 5 rfl);simp only[e5]at hK⊢;go_simp;exact hK.out _ _ (hS.v0 rfl rfl rfl)
       ·have e6:=hS.fx 6 rfl rfl (hN.out 6 rfl);simp only[e6]at hK⊢;have e5:=hS.fx 5 rfl rfl (hN.out 5 rfl);simp only[e5]at hK⊢;obtain ⟨u1,u2,u3,u4,u5,u6,u7,u8⟩:=Blk.eight (hS.mem.k (i:=1) rfl);go_simp;exact hK.out _ _ (hS.v0 rfl rfl rfl)
       ·have e7:=hS.fx 7 rfl rfl (hN.out 7 rfl);simp only[e7]at hK⊢;have e5:=hS.fx 5 rfl rfl (hN.out 5 rfl);simp only[e5]at hK⊢;go_simp;go_at_call 108;refine (HN.out _ (hE.below hS.mem.bel)).mono ?_;rintro e9 w10 ⟨rfl,q⟩;exact hK.out _ _ (hS.val rfl (noStore_of rfl) q rfl)
       ·have e5:=hS.fx 5 rfl rfl (hN.out 5 rfl);simp only[e5]at hK⊢;have e8:=hS.fx 8 rfl rfl (hN.out 8 rfl);simp only[e8]at hK⊢;go_simp;exact hK.out _ _ (hS.v0 rfl rfl rfl)
       ·have e3:=hS.fx 3 rfl rfl (hN.out 3 rfl);simp only[e3]at hK⊢;go_simp;exact hK.out _ _ (hS.v0 rfl rfl rfl)
       ·have e9:=hS.fx 9 rfl rfl (hN.out 9 rfl);simp only[e9]at hK⊢;go_simp;exact hK.out _ _ (hS.v0 rfl rfl rfl)
      intro L s w9 hall hS;have eS:s 10= .string (⟨#[115,111,108,118,101,32,109,97,120,105,109,105,122,101,32]⟩++N++⟨#[59]⟩):=hS.val_at 10 rfl (by decide) (hall 10 (by decide));have eB:s 11= .bool nb:=hS.val_at 11 rfl (by decide) (hall 11 (by decide));go_wp2;refine bodyPost_ret (v:= .tuple #[.string (⟨#[115,111,108,118,101,32,109,97,120,105,109,105,122,101,32]⟩++N++⟨#[59]⟩),.bool nb]) (by simp[results,Tryz.results77,go_sem,eS,eB]) rfl ⟨?_,hS.mem.bel⟩;rw[HX2.out,HF.out];first|rfl|(rw[HV.out];rfl)
     ·have a2':=int_ne0' a2;have HZ:=Lib.hid (show goalS _=([],false) from HF.out.trans ((if_neg h0).trans ((if_neg a1).trans (if_neg a2))));go_wp2_with fail;refine bodyPost_ret (v:=TXV ([],false)) (by simp[results,Tryz.results77,go_sem,TXV]) rfl ⟨by rw[HZ.out],M.bel⟩
   ·have hv1:=nat_ne0 hv;have HV:=Lib.hid (show (v==0)=false by simp[hv]);by_cases a1:ak=1
    ·subst a1;go_upto_region 8 with fail;clear m1 m2 m3 m4 m5 m6 m7 m8 y1 y2 y3 y4 y5 y6 y7 y8;refine region_st (n:=12) (frame:= ?frame7) (fun jK=>[.val (.fix (.pointer (some ⟨w.heap.size,1,none⟩))),.val (.fix (.string N)),.val (.fix (.string (⟨#[115,111,108,118,101,32,109,105,110,105,109,105,122,101,32]⟩++N))),.val (.fix (.string (⟨#[115,111,108,118,101,32,109,105,110,105,109,105,122,101,32]⟩++N++⟨#[59]⟩))),.val (.fix (.bool false)),.val (.fix (.bool false)),.none,.none,.none,.val (.fix (.bool false)),.val (.fix (.string (⟨#[115,111,108,118,101,32,109,105,110,105,109,105,122,101,32]⟩++N++⟨#[59]⟩))),.val (.fix (.bool false))].getD jK .none) [] (by kernel_rfl) (by kernel_rfl) (by kernel_rfl) rfl M (fun _ h=>by cases h) (fun _ h=>by cases h) ?_ ?_ ?_
     case refine_1=>
      intro s;simp only[fr,Act.put,List.append_eq,List.cons_append,List.nil_append,List.setIfInBounds_toArray,List.set_cons_zero,List.set_cons_succ,Nat.reduceAdd];rfl
     case refine_2=>
      refine SC 0 1 rfl ?_ (SC 1 2 rfl ?_ (SC 2 3 rfl ?_ (SC 3 4 rfl ?_ (SC 4 5 rfl ?_ (SC 5 6 rfl ?_ (SC 6 7 rfl ?_ (SC 7 8 rfl ?_ (SC 8 9 rfl ?_ (SC 9 10 rfl ?_ (SC 10 11 rfl ?_ (SC 11 12 rfl ?_ Steps.nil)))))))))));all_goals (intro L s w9 hN hU hi hS K hK;dsimp only at hK⊢;simp only[Act.put,List.setIfInBounds_toArray,List.set_cons_zero,List.set_cons_succ]at hK)
      ·go_simp;exact hK.out _ _ (hS.v0 rfl rfl rfl)
      ·have e0:=hS.fx 0 rfl rfl (hN.out 0 rfl);simp only[e0]at hK⊢;obtain ⟨u1,u2,u3,u4,u5,u6,u7,u8⟩:=Blk.eight (hS.mem.k (i:=1) rfl);go_simp;exact hK.out _ _ (hS.v0 rfl rfl rfl)
      ·have e1:=hS.fx 1 rfl rfl (hN.out 1 rfl);simp only[e1]at hK⊢;have z1:=hz1.out;go_simp;exact hK.out _ _ (hS.v0 rfl rfl rfl)
      ·have e2:=hS.fx 2 rfl rfl (hN.out 2 rfl);simp only[e2]at hK⊢;have z1:=hz2.out;go_simp;exact hK.out _ _ (hS.v0 rfl rfl rfl)
      ·go_simp;exact hK.out _ _ (hS.v0 rfl rfl rfl)
      ·have e4:=hS.fx 4 rfl rfl (hN.out 4 rfl);simp only[e4]at hK⊢;go_simp;exact hK.out _ _ (hS.v0 rfl rfl rfl)
      ·have e5:=hS.fx 5 rfl rfl (hN.out 5 rfl);simp only[e5]at hK⊢;go_simp;exact hK.out undef _ (hS.k0 rfl rfl)
      ·have e5:=hS.fx 5 rfl rfl (hN.out 5 rfl);simp only[e5]at hK⊢;go_simp;exact hK.out undef _ (hS.k0 rfl rfl)
      ·have e5:=hS.fx 5 rfl rfl (hN.out 5 rfl);simp only[e5]at hK⊢;go_simp;exact hK.out undef _ (hS.k0 rfl rfl)
      ·have e5:=hS.fx 5 rfl rfl (hN.out 5 rfl);simp only[e5]at hK⊢;go_simp;exact hK.out _ _ (hS.v0 rfl rfl rfl)
      ·have e3:=hS.fx 3 rfl rfl (hN.out 3 rfl);simp only[e3]at hK⊢;go_simp;exact hK.out _ _ (hS.v0 rfl rfl rfl)
      ·have e9:=hS.fx 9 rfl rfl (hN.out 9 rfl);simp only[e9]at hK⊢;go_simp;exact hK.out _ _ (hS.v0 rfl rfl rfl)
     intro L s w9 hall hS;have eS:s 10= .string (⟨#[115,111,108,118,101,32,109,105,110,105,109,105,122,101,32]⟩++N++⟨#[59]⟩):=hS.val_at 10 rfl (by decide) (hall 10 (by decide));have eB:s 11= .bool false:=hS.val_at 11 rfl (by decide) (hall 11 (by decide));go_wp2;refine bodyPost_ret (v:= .tuple #[.string (⟨#[115,111,108,118,101,32,109,105,110,105,109,105,122,101,32]⟩++N++⟨#[59]⟩),.bool false]) (by simp[results,Tryz.results77,go_sem,eS,eB]) rfl ⟨?_,hS.mem.bel⟩;rw[HX1.out,HF.out];first|rfl|(rw[HV.out];rfl)
    ·have a1':=int_ne0' a1;by_cases a2:ak=2
     ·subst a2;go_upto_region 10 with fail;clear m1 m2 m3 m4 m5 m6 m7 m8 y1 y2 y3 y4 y5 y6 y7 y8;refine region_st (n:=12) (frame:= ?frame8) (fun jK=>[.val (.fix (.pointer (some ⟨w.heap.size,1,none⟩))),.val (.fix (.string N)),.val (.fix (.string (⟨#[115,111,108,118,101,32,109,97,120,105,109,105,122,101,32]⟩++N))),.val (.fix (.string (⟨#[115,111,108,118,101,32,109,97,120,105,109,105,122,101,32]⟩++N++⟨#[59]⟩))),.val (.fix (.bool false)),.val (.fix (.bool false)),.none,.none,.none,.val (.fix (.bool false)),.val (.fix (.string (⟨#[115,111,108,118,101,32,109,97,120,105,109,105,122,101,32]⟩++N++⟨#[59]⟩))),.val (.fix (.bool false))].getD jK .none) [] (by kernel_rfl) (by kernel_rfl) (by kernel_rfl) rfl M (fun _ h=>by cases h) (fun _ h=>by cases h) ?_ ?_ ?_
      case refine_1=>
       intro s;simp only[fr,Act.put,List.append_eq,List.cons_append,List.nil_append,List.setIfInBounds_toArray,List.set_cons_zero,List.set_cons_succ,Nat.reduceAdd];rfl
      case refine_2=>
       refine SC 0 1 rfl ?_ (SC 1 2 rfl ?_ (SC 2 3 rfl ?_ (SC 3 4 rfl ?_ (SC 4 5 rfl ?_ (SC 5 6 rfl ?_ (SC 6 7 rfl ?_ (SC 7 8 rfl ?_ (SC 8 9 rfl ?_ (SC 9 10 rfl ?_ (SC 10 11 rfl ?_ (SC 11 12 rfl ?_ Steps.nil)))))))))));all_goals (intro L s w9 hN hU hi hS K hK;dsimp only at hK⊢;simp only[Act.put,List.setIfInBounds_toArray,List.set_cons_zero,List.set_cons_succ]at hK)
       ·go_simp;exact hK.out _ _ (hS.v0 rfl rfl rfl)
       ·have e0:=hS.fx 0 rfl rfl (hN.out 0 rfl);simp only[e0]at hK⊢;obtain ⟨u1,u2,u3,u4,u5,u6,u7,u8⟩:=Blk.eight (hS.mem.k (i:=1) rfl);go_simp;exact hK.out _ _ (hS.v0 rfl rfl rfl)
       ·have e1:=hS.fx 1 rfl rfl (hN.out 1 rfl);simp only[e1]at hK⊢;have z1:=hz1.out;go_simp;exact hK.out _ _ (hS.v0 rfl rfl rfl)
       ·have e2:=hS.fx 2 rfl rfl (hN.out 2 rfl);simp only[e2]at hK⊢;have z1:=hz2.out;go_simp;exact hK.out _ _ (hS.v0 rfl rfl rfl)
       ·go_simp;exact hK.out _ _ (hS.v0 rfl rfl rfl)
       ·have e4:=hS.fx 4 rfl rfl (hN.out 4 rfl);simp only[e4]at hK⊢;go_simp;exact hK.out _ _ (hS.v0 rfl rfl rfl)
       ·have e5:=hS.fx 5 rfl rfl (hN.out 5 rfl);simp only[e5]at hK⊢;go_simp;exact hK.out undef _ (hS.k0 rfl rfl)
       ·have e5:=hS.fx 5 rfl rfl (hN.out 5 rfl);simp only[e5]at hK⊢;go_simp;exact hK.out undef _ (hS.k0 rfl rfl)
       ·have e5:=hS.fx 5 rfl rfl (hN.out 5 rfl);simp only[e5]at hK⊢;go_simp;exact hK.out undef _ (hS.k0 rfl rfl)
       ·have e5:=hS.fx 5 rfl rfl (hN.out 5 rfl);simp only[e5]at hK⊢;go_simp;exact hK.out _ _ (hS.v0 rfl rfl rfl)
       ·have e3:=hS.fx 3 rfl rfl (hN.out 3 rfl);simp only[e3]at hK⊢;go_simp;exact hK.out _ _ (hS.v0 rfl rfl rfl)
       ·have e9:=hS.fx 9 rfl rfl (hN.out 9 rfl);simp only[e9]at hK⊢;go_simp;exact hK.out _ _ (hS.v0 rfl rfl rfl)
      intro L s w9 hall hS;have eS:s 10= .string (⟨#[115,111,108,118,101,32,109,97,120,105,109,105,122,101,32]⟩++N++⟨#[59]⟩):=hS.val_at 10 rfl (by decide) (hall 10 (by decide));have eB:s 11= .bool false:=hS.val_at 11 rfl (by decide) (hall 11 (by decide));go_wp2;refine bodyPost_ret (v:= .tuple #[.string (⟨#[115,111,108,118,101,32,109,97,120,105,109,105,122,101,32]⟩++N++⟨#[59]⟩),.bool false]) (by simp[results,Tryz.results77,go_sem,eS,eB]) rfl ⟨?_,hS.mem.bel⟩;rw[HX2.out,HF.out];first|rfl|(rw[HV.out];rfl)
     ·have a2':=int_ne0' a2;have HZ:=Lib.hid (show goalS _=([],false) from HF.out.trans ((if_neg h0).trans ((if_neg a1).trans (if_neg a2))));go_wp2_with fail;refine bodyPost_ret (v:=TXV ([],false)) (by simp[results,Tryz.results77,go_sem,TXV]) rfl ⟨by rw[HZ.out],M.bel⟩
theorem vgoal_any (k:Int) (nm:List UInt8) (b:Bool) (dm:List (Int×Int)) (n3:Nat) (A3:Option Addr) (sz:Int) (o:Bool) (vs:List Ex) (n6:Nat) (A6:Option Addr) (ak:Int) (w:World) (hE:Env w) (hnm:nm.length≤10000):Calls Tryz.prog 77 #[.agg #[.int .i64 k,.string ⟨nm.toArray⟩,.bool b,.slice A3 dm.length n3,.int .i64 sz,.bool o,.slice A6 vs.length n6,.int .i64 ak]] w fun e w'=>e= .returned (TXV (goalS ⟨k,nm,b,dm,sz,o,vs,ak⟩))∧Below w.heap.size w w':=by
 by_cases h0:ak=0
 ·subst h0;exact vgoal_sat k nm b dm n3 A3 sz o vs n6 A6 w hE hnm
 ·exact vgoal_oth k nm b dm n3 A3 sz o vs n6 A6 ak w hE hnm h0
end Go.Proofs.YtjlhjabgclflcaaGreatDoor

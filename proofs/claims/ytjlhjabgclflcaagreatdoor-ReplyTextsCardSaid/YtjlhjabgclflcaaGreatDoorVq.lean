import Derived.Test.YtjlhjabgclflcaaGreatDoorVo
set_option maxHeartbeats 40000000
set_option maxRecDepth 100000
set_option linter.unusedSimpArgs false
set_option linter.unusedVariables false
namespace Go.Proofs.YtjlhjabgclflcaaGreatDoor
open Go.RowKit Num Go.Joins
theorem bare_len (k:Int) (nm:List UInt8) (b:Bool) (dm:List (Int×Int)) (sz:Int) (o:Bool) (vs:List Ex) (ak:Int):bareB ⟨k,nm,b,dm,sz,o,vs,ak⟩=(dm.length==0&&(sz==0&&(!o&&ak==0))):=by
 unfold bareB;cases dm<;>rfl
theorem name_len {s:List UInt8} (h:s.length≤10000):(⟨s.toArray⟩:ByteArray).size≤10000:=h
theorem exprS_len {y:Ex} (hr:RngE y) (h:(exprS y).2=true):(exprS y).1.length≤1000000:=by
 unfold exprS at h⊢;by_cases hk:y.k≠4
 ·rw[if_pos hk]at h⊢;exact Nat.le_trans (plain0_len (y:=y.low) hr.1 h) (by decide)
 ·rw[if_neg hk];have:=joinS_len (g:=plain0S) (l:=y.l) (fun z hz h=>plain0_len (hr.2 z hz) h);rw[List.length_cons,List.length_append];show _+1+1≤_;omega
theorem joinE_len {l:List Ex} (hr:∀y∈l,RngE y):(joinS (l.map exprS)).1.length≤100000000:=by
 unfold joinS;split
 ·exact Nat.zero_le _
 ·rename_i hl;split
  ·rename_i ha;rw[List.all_eq_true]at ha;rw[List.map_map];have h1:=joinC_len 1000000 (l.map ((·.1)∘exprS)) (fun t ht=>by
    obtain ⟨x,hx,rfl⟩:=List.mem_map.1 ht;exact exprS_len (hr x hx) (ha (exprS x) (List.mem_map_of_mem hx)))
   rw[List.length_map]at h1 hl;show (Lib.join (l.map ((·.1)∘exprS)) [44,32]).length≤_;have:1000002*l.length≤1000002*64:=Nat.mul_le_mul_left _ (by omega);omega
  ·exact Nat.zero_le _
theorem vcon_any {F:Nat→Prop} (k:Int) (nm:List UInt8) (b:Bool) (dm:List (Int×Int)) (n3:Nat) (A3:Option Addr) (sz:Int) (o:Bool) (vs:List Ex) (n6:Nat) (A6:Option Addr) (ak:Int) (w:World) (hE:Env w) (hnm:nm.length≤10000) (hr:∀y∈vs,RngE y) (ha:(layE 159).row.P F w (.slice A6 vs.length n6) vs):Calls Tryz.prog 76 #[.agg #[.int .i64 k,.string ⟨nm.toArray⟩,.bool b,.slice A3 dm.length n3,.int .i64 sz,.bool o,.slice A6 vs.length n6,.int .i64 ak]] w fun e w'=>e= .returned (TXV (conS ⟨k,nm,b,dm,sz,o,vs,ak⟩))∧Below w.heap.size w w':=by
 have hF:conS ⟨k,nm,b,dm,sz,o,vs,ak⟩=(wConstraint++[32]++nm++[40]++(joinS (vs.map exprS)).1++[41,59],(joinS (vs.map exprS)).2&&(bareB ⟨k,nm,b,dm,sz,o,vs,ak⟩&&(!b&&nameB nm))):=rfl;rw[bare_len]at hF;have hSl:(⟨(joinS (vs.map exprS)).1.toArray⟩:ByteArray).size≤100000000:=joinE_len hr;have HJ:=Lib.hid (fun (w':World) (q:Below w.heap.size w w')=>vjoin_ex (f:=111) (F:=F) exprS (fun _ _=>rfl) A6 n6 vs w' (Dt.below _ ha q (Nat.le_refl _)) (hE.below q) (fun y hy h=>exprS_len (hr y hy) h) (fun y hy A' c' w' hE' hrow=>vexpr_any y.k y.n y.s y.l c' A' (hr y hy) w' hE' hrow));generalize joinS (vs.map exprS)=J at*;obtain ⟨t,bt⟩:=J;dsimp only[TXV]at hF HJ hSl;have HN:=Lib.hid (vname_any ⟨nm.toArray⟩);have hX:∀B,(Value.tuple #[.string ((⟨#[99,111,110,115,116,114,97,105,110,116,32]⟩:ByteArray)++⟨nm.toArray⟩++⟨#[40]⟩++⟨t.toArray⟩++⟨#[41,59]⟩),.bool B])=TXV (wConstraint++[32]++nm++[40]++t++[41,59],B):=fun B=>by
  have h:((⟨#[99,111,110,115,116,114,97,105,110,116,32]⟩:ByteArray)++⟨nm.toArray⟩++⟨#[40]⟩++⟨t.toArray⟩++⟨#[41,59]⟩)=⟨(wConstraint++[32]++nm++[40]++t++[41,59]).toArray⟩:=by
   apply ByteArray.ext;simp[wConstraint]
  unfold TXV;rw[h]
 have hNl:=name_len hnm;have hnb:nameB (⟨nm.toArray⟩:ByteArray).data.toList=nameB nm:=rfl;rw[hnb]at HN;have HB:=Lib.hid (vbare_any k ⟨nm.toArray⟩ b dm.length n3 A3 sz o vs.length n6 A6 ak);generalize (⟨nm.toArray⟩:ByteArray)=N at*;generalize (⟨t.toArray⟩:ByteArray)=S at*;have hz1:Hid (¬9223372036854775807<11+N.size):=by show ¬_;omega
 have hz2:Hid (¬9223372036854775807<11+N.size+1):=by show ¬_;omega
 have hz3:Hid (¬9223372036854775807<11+N.size+1+S.size):=by show ¬_;omega
 have hz4:Hid (¬9223372036854775807<11+N.size+1+S.size+2):=by show ¬_;omega
 clear hNl hSl hnm;have HF:=Lib.hid hF;have HX:=Lib.hid hX;clear hF hX ha hnb;go_enter Tryz.func76,Tryz.ntmps76;go_wp2_with fail;refine (HJ.out _ (below_alloc1 w (.cells #[.int .i64 k,.string N,.bool b,.slice A3 dm.length n3,.int .i64 sz,.bool o,.slice A6 vs.length n6,.int .i64 ak] 97))).mono ?_;rintro e w1 ⟨rfl,q1⟩;have M:Mem w w1 [(w.heap.size,97,#[.int .i64 k,.string N,.bool b,.slice A3 dm.length n3,.int .i64 sz,.bool o,.slice A6 vs.length n6,.int .i64 ak])] []:=((Mem.start w).new 97 _).below q1;clear q1 HJ;generalize (dm.length==0&&(sz==0&&(!o&&ak==0)))=bb at*;generalize nameB nm=nb at*;go_upto_region 2 with fail;cases bt with
 |false=>
  refine region_st (n:=24) (frame:= ?frame1) (fun jK=>[.val (.fix (.pointer (some ⟨w.heap.size,1,none⟩))),.val (.fix (.string N)),.val (.fix (.string (⟨#[99,111,110,115,116,114,97,105,110,116,32]⟩++N))),.val (.fix (.string (⟨#[99,111,110,115,116,114,97,105,110,116,32]⟩++N++⟨#[40]⟩))),.val (.fix (.string S)),.val (.fix (.string (⟨#[99,111,110,115,116,114,97,105,110,116,32]⟩++N++⟨#[40]⟩++S))),.val (.fix (.string (⟨#[99,111,110,115,116,114,97,105,110,116,32]⟩++N++⟨#[40]⟩++S++⟨#[41,59]⟩))),.val (.fix (.bool false)),.val (.fix (.bool false)),.none,.none,.val (.fix (.bool false)),.val (.fix (.bool false)),.none,.none,.none,.val (.fix (.bool false)),.val (.fix (.bool false)),.none,.none,.none,.val (.fix (.bool false)),.val (.fix (.string (⟨#[99,111,110,115,116,114,97,105,110,116,32]⟩++N++⟨#[40]⟩++S++⟨#[41,59]⟩))),.val (.fix (.bool false))].getD jK .none) [] (by kernel_rfl) (by kernel_rfl) (by kernel_rfl) rfl M (fun _ h=>by cases h) (fun _ h=>by cases h) ?_ ?_ ?_
  case refine_1=>
   intro s;simp only[fr,Act.put,List.append_eq,List.cons_append,List.nil_append,List.setIfInBounds_toArray,List.set_cons_zero,List.set_cons_succ,Nat.reduceAdd];rfl
  case refine_2=>
   refine SC 0 1 rfl ?_ (SC 1 2 rfl ?_ (SC 2 3 rfl ?_ (SC 3 4 rfl ?_ (SC 4 5 rfl ?_ (SC 5 6 rfl ?_ (SC 6 7 rfl ?_ (SC 7 8 rfl ?_ (SC 8 9 rfl ?_ (SC 9 10 rfl ?_ (SC 10 11 rfl ?_ (SC 11 12 rfl ?_ (SC 12 13 rfl ?_ (SC 13 14 rfl ?_ (SC 14 15 rfl ?_ (SC 15 16 rfl ?_ (SC 16 17 rfl ?_ (SC 17 18 rfl ?_ (SC 18 19 rfl ?_ (SC 19 20 rfl ?_ (SC 20 21 rfl ?_ (SC 21 22 rfl ?_ (SC 22 23 rfl ?_ (SC 23 24 rfl ?_ Steps.nil)))))))))))))))))))))));all_goals (intro L s w9 hN hU hi hS K hK;dsimp only at hK⊢;simp only[Act.put,List.setIfInBounds_toArray,List.set_cons_zero,List.set_cons_succ]at hK)
   ·go_simp;exact hK.out _ _ (hS.v0 rfl rfl rfl)
   ·have e0:=hS.fx 0 rfl rfl (hN.out 0 rfl);simp only[e0]at hK⊢;obtain ⟨u1,u2,u3,u4,u5,u6,u7,u8⟩:=Blk.eight (hS.mem.k (i:=0) rfl);go_simp;exact hK.out _ _ (hS.v0 rfl rfl rfl)
   ·have e1:=hS.fx 1 rfl rfl (hN.out 1 rfl);simp only[e1]at hK⊢;have z1:=hz1.out;go_simp;exact hK.out _ _ (hS.v0 rfl rfl rfl)
   ·have e2:=hS.fx 2 rfl rfl (hN.out 2 rfl);simp only[e2]at hK⊢;have z1:=hz2.out;go_simp;exact hK.out _ _ (hS.v0 rfl rfl rfl)
   ·go_simp;exact hK.out _ _ (hS.v0 rfl rfl rfl)
   ·have e3:=hS.fx 3 rfl rfl (hN.out 3 rfl);simp only[e3]at hK⊢;have e4:=hS.fx 4 rfl rfl (hN.out 4 rfl);simp only[e4]at hK⊢;have z1:=hz3.out;go_simp;exact hK.out _ _ (hS.v0 rfl rfl rfl)
   ·have e5:=hS.fx 5 rfl rfl (hN.out 5 rfl);simp only[e5]at hK⊢;have z1:=hz4.out;go_simp;exact hK.out _ _ (hS.v0 rfl rfl rfl)
   ·go_simp;exact hK.out _ _ (hS.v0 rfl rfl rfl)
   ·have e7:=hS.fx 7 rfl rfl (hN.out 7 rfl);simp only[e7]at hK⊢;go_simp;exact hK.out _ _ (hS.v0 rfl rfl rfl)
   ·have e8:=hS.fx 8 rfl rfl (hN.out 8 rfl);simp only[e8]at hK⊢;go_simp;exact hK.out undef _ (hS.k0 rfl rfl)
   ·have e8:=hS.fx 8 rfl rfl (hN.out 8 rfl);simp only[e8]at hK⊢;go_simp;exact hK.out undef _ (hS.k0 rfl rfl)
   ·have e8:=hS.fx 8 rfl rfl (hN.out 8 rfl);simp only[e8]at hK⊢;go_simp;exact hK.out _ _ (hS.v0 rfl rfl rfl)
   ·have e11:=hS.fx 11 rfl rfl (hN.out 11 rfl);simp only[e11]at hK⊢;go_simp;exact hK.out _ _ (hS.v0 rfl rfl rfl)
   ·have e12:=hS.fx 12 rfl rfl (hN.out 12 rfl);simp only[e12]at hK⊢;go_simp;exact hK.out undef _ (hS.k0 rfl rfl)
   ·have e12:=hS.fx 12 rfl rfl (hN.out 12 rfl);simp only[e12]at hK⊢;go_simp;exact hK.out undef _ (hS.k0 rfl rfl)
   ·have e12:=hS.fx 12 rfl rfl (hN.out 12 rfl);simp only[e12]at hK⊢;go_simp;exact hK.out undef _ (hS.k0 rfl rfl)
   ·have e12:=hS.fx 12 rfl rfl (hN.out 12 rfl);simp only[e12]at hK⊢;go_simp;exact hK.out _ _ (hS.v0 rfl rfl rfl)
   ·have e16:=hS.fx 16 rfl rfl (hN.out 16 rfl);simp only[e16]at hK⊢;go_simp;exact hK.out _ _ (hS.v0 rfl rfl rfl)
   ·have e17:=hS.fx 17 rfl rfl (hN.out 17 rfl);simp only[e17]at hK⊢;go_simp;exact hK.out undef _ (hS.k0 rfl rfl)
   ·have e17:=hS.fx 17 rfl rfl (hN.out 17 rfl);simp only[e17]at hK⊢;go_simp;exact hK.out undef _ (hS.k0 rfl rfl)
   ·have e17:=hS.fx 17 rfl rfl (hN.out 17 rfl);simp only[e17]at hK⊢;go_simp;exact hK.out undef _ (hS.k0 rfl rfl)
   ·have e17:=hS.fx 17 rfl rfl (hN.out 17 rfl);simp only[e17]at hK⊢;go_simp;exact hK.out _ _ (hS.v0 rfl rfl rfl)
   ·have e6:=hS.fx 6 rfl rfl (hN.out 6 rfl);simp only[e6]at hK⊢;go_simp;exact hK.out _ _ (hS.v0 rfl rfl rfl)
   ·have e21:=hS.fx 21 rfl rfl (hN.out 21 rfl);simp only[e21]at hK⊢;go_simp;exact hK.out _ _ (hS.v0 rfl rfl rfl)
  intro L s w9 hall hS;have eS:s 22= .string (⟨#[99,111,110,115,116,114,97,105,110,116,32]⟩++N++⟨#[40]⟩++S++⟨#[41,59]⟩):=hS.val_at 22 rfl (by decide) (hall 22 (by decide));have eB:s 23= .bool false:=hS.val_at 23 rfl (by decide) (hall 23 (by decide));go_wp2;refine bodyPost_ret (v:= .tuple #[.string (⟨#[99,111,110,115,116,114,97,105,110,116,32]⟩++N++⟨#[40]⟩++S++⟨#[41,59]⟩),.bool false]) (by simp[results,Tryz.results76,go_sem,eS,eB]) rfl ⟨?_,hS.mem.bel⟩;rw[HX.out,HF.out];rfl
 |true=>
  cases bb with
  |false=>
   refine region_st (n:=24) (frame:= ?frame2) (fun jK=>[.val (.fix (.pointer (some ⟨w.heap.size,1,none⟩))),.val (.fix (.string N)),.val (.fix (.string (⟨#[99,111,110,115,116,114,97,105,110,116,32]⟩++N))),.val (.fix (.string (⟨#[99,111,110,115,116,114,97,105,110,116,32]⟩++N++⟨#[40]⟩))),.val (.fix (.string S)),.val (.fix (.string (⟨#[99,111,110,115,116,114,97,105,110,116,32]⟩++N++⟨#[40]⟩++S))),.val (.fix (.string (⟨#[99,111,110,115,116,114,97,105,110,116,32]⟩++N++⟨#[40]⟩++S++⟨#[41,59]⟩))),.val (.fix (.bool true)),.val (.fix (.bool true)),.val (.fix (.agg #[.int .i64 k,.string N,.bool b,.slice A3 dm.length n3,.int .i64 sz,.bool o,.slice A6 vs.length n6,.int .i64 ak])),.val (.fix (.bool false)),.val (.fix (.bool false)),.val (.fix (.bool false)),.none,.none,.none,.val (.fix (.bool false)),.val (.fix (.bool false)),.none,.none,.none,.val (.fix (.bool false)),.val (.fix (.string (⟨#[99,111,110,115,116,114,97,105,110,116,32]⟩++N++⟨#[40]⟩++S++⟨#[41,59]⟩))),.val (.fix (.bool false))].getD jK .none) [] (by kernel_rfl) (by kernel_rfl) (by kernel_rfl) rfl M (fun _ h=>by cases h) (fun _ h=>by cases h) ?_ ?_ ?_
   case refine_1=>
    intro s;simp only[fr,Act.put,List.append_eq,List.cons_append,List.nil_append,List.setIfInBounds_toArray,List.set_cons_zero,List.set_cons_succ,Nat.reduceAdd];rfl
   case refine_2=>
    refine SC 0 1 rfl ?_ (SC 1 2 rfl ?_ (SC 2 3 rfl ?_ (SC 3 4 rfl ?_ (SC 4 5 rfl ?_ (SC 5 6 rfl ?_ (SC 6 7 rfl ?_ (SC 7 8 rfl ?_ (SC 8 9 rfl ?_ (SC 9 10 rfl ?_ (SC 10 11 rfl ?_ (SC 11 12 rfl ?_ (SC 12 13 rfl ?_ (SC 13 14 rfl ?_ (SC 14 15 rfl ?_ (SC 15 16 rfl ?_ (SC 16 17 rfl ?_ (SC 17 18 rfl ?_ (SC 18 19 rfl ?_ (SC 19 20 rfl ?_ (SC 20 21 rfl ?_ (SC 21 22 rfl ?_ (SC 22 23 rfl ?_ (SC 23 24 rfl ?_ Steps.nil)))))))))))))))))))))));all_goals (intro L s w9 hN hU hi hS K hK;dsimp only at hK⊢;simp only[Act.put,List.setIfInBounds_toArray,List.set_cons_zero,List.set_cons_succ]at hK)
    ·go_simp;exact hK.out _ _ (hS.v0 rfl rfl rfl)
    ·have e0:=hS.fx 0 rfl rfl (hN.out 0 rfl);simp only[e0]at hK⊢;obtain ⟨u1,u2,u3,u4,u5,u6,u7,u8⟩:=Blk.eight (hS.mem.k (i:=0) rfl);go_simp;exact hK.out _ _ (hS.v0 rfl rfl rfl)
    ·have e1:=hS.fx 1 rfl rfl (hN.out 1 rfl);simp only[e1]at hK⊢;have z1:=hz1.out;go_simp;exact hK.out _ _ (hS.v0 rfl rfl rfl)
    ·have e2:=hS.fx 2 rfl rfl (hN.out 2 rfl);simp only[e2]at hK⊢;have z1:=hz2.out;go_simp;exact hK.out _ _ (hS.v0 rfl rfl rfl)
    ·go_simp;exact hK.out _ _ (hS.v0 rfl rfl rfl)
    ·have e3:=hS.fx 3 rfl rfl (hN.out 3 rfl);simp only[e3]at hK⊢;have e4:=hS.fx 4 rfl rfl (hN.out 4 rfl);simp only[e4]at hK⊢;have z1:=hz3.out;go_simp;exact hK.out _ _ (hS.v0 rfl rfl rfl)
    ·have e5:=hS.fx 5 rfl rfl (hN.out 5 rfl);simp only[e5]at hK⊢;have z1:=hz4.out;go_simp;exact hK.out _ _ (hS.v0 rfl rfl rfl)
    ·go_simp;exact hK.out _ _ (hS.v0 rfl rfl rfl)
    ·have e7:=hS.fx 7 rfl rfl (hN.out 7 rfl);simp only[e7]at hK⊢;go_simp;exact hK.out _ _ (hS.v0 rfl rfl rfl)
    ·have e8:=hS.fx 8 rfl rfl (hN.out 8 rfl);simp only[e8]at hK⊢;obtain ⟨u1,u2,u3,u4,u5,u6,u7,u8⟩:=Blk.eight (hS.mem.k (i:=0) rfl);go_simp;exact hK.out _ _ (hS.v0 rfl rfl rfl)
    ·have e9:=hS.fx 9 rfl rfl (hN.out 9 rfl);simp only[e9]at hK⊢;have e8:=hS.fx 8 rfl rfl (hN.out 8 rfl);simp only[e8]at hK⊢;go_simp;go_at_call 107;refine (HB.out _).mono ?_;rintro e9 w10 ⟨rfl,q⟩;exact hK.out _ _ (hS.val rfl (noStore_of rfl) q rfl)
    ·have e8:=hS.fx 8 rfl rfl (hN.out 8 rfl);simp only[e8]at hK⊢;have e10:=hS.fx 10 rfl rfl (hN.out 10 rfl);simp only[e10]at hK⊢;go_simp;exact hK.out _ _ (hS.v0 rfl rfl rfl)
    ·have e11:=hS.fx 11 rfl rfl (hN.out 11 rfl);simp only[e11]at hK⊢;go_simp;exact hK.out _ _ (hS.v0 rfl rfl rfl)
    ·have e12:=hS.fx 12 rfl rfl (hN.out 12 rfl);simp only[e12]at hK⊢;go_simp;exact hK.out undef _ (hS.k0 rfl rfl)
    ·have e12:=hS.fx 12 rfl rfl (hN.out 12 rfl);simp only[e12]at hK⊢;go_simp;exact hK.out undef _ (hS.k0 rfl rfl)
    ·have e12:=hS.fx 12 rfl rfl (hN.out 12 rfl);simp only[e12]at hK⊢;go_simp;exact hK.out undef _ (hS.k0 rfl rfl)
    ·have e12:=hS.fx 12 rfl rfl (hN.out 12 rfl);simp only[e12]at hK⊢;go_simp;exact hK.out _ _ (hS.v0 rfl rfl rfl)
    ·have e16:=hS.fx 16 rfl rfl (hN.out 16 rfl);simp only[e16]at hK⊢;go_simp;exact hK.out _ _ (hS.v0 rfl rfl rfl)
    ·have e17:=hS.fx 17 rfl rfl (hN.out 17 rfl);simp only[e17]at hK⊢;go_simp;exact hK.out undef _ (hS.k0 rfl rfl)
    ·have e17:=hS.fx 17 rfl rfl (hN.out 17 rfl);simp only[e17]at hK⊢;go_simp;exact hK.out undef _ (hS.k0 rfl rfl)
    ·have e17:=hS.fx 17 rfl rfl (hN.out 17 rfl);simp only[e17]at hK⊢;go_simp;exact hK.out undef _ (hS.k0 rfl rfl)
    ·have e17:=hS.fx 17 rfl rfl (hN.out 17 rfl);simp only[e17]at hK⊢;go_simp;exact hK.out _ _ (hS.v0 rfl rfl rfl)
    ·have e6:=hS.fx 6 rfl rfl (hN.out 6 rfl);simp only[e6]at hK⊢;go_simp;exact hK.out _ _ (hS.v0 rfl rfl rfl)
    ·have e21:=hS.fx 21 rfl rfl (hN.out 21 rfl);simp only[e21]at hK⊢;go_simp;exact hK.out _ _ (hS.v0 rfl rfl rfl)
   intro L s w9 hall hS;have eS:s 22= .string (⟨#[99,111,110,115,116,114,97,105,110,116,32]⟩++N++⟨#[40]⟩++S++⟨#[41,59]⟩):=hS.val_at 22 rfl (by decide) (hall 22 (by decide));have eB:s 23= .bool false:=hS.val_at 23 rfl (by decide) (hall 23 (by decide));go_wp2;refine bodyPost_ret (v:= .tuple #[.string (⟨#[99,111,110,115,116,114,97,105,110,116,32]⟩++N++⟨#[40]⟩++S++⟨#[41,59]⟩),.bool false]) (by simp[results,Tryz.results76,go_sem,eS,eB]) rfl ⟨?_,hS.mem.bel⟩;rw[HX.out,HF.out];rfl
  |true=>
   cases b with
   |true=>
    refine region_st (n:=24) (frame:= ?frame3) (fun jK=>[.val (.fix (.pointer (some ⟨w.heap.size,1,none⟩))),.val (.fix (.string N)),.val (.fix (.string (⟨#[99,111,110,115,116,114,97,105,110,116,32]⟩++N))),.val (.fix (.string (⟨#[99,111,110,115,116,114,97,105,110,116,32]⟩++N++⟨#[40]⟩))),.val (.fix (.string S)),.val (.fix (.string (⟨#[99,111,110,115,116,114,97,105,110,116,32]⟩++N++⟨#[40]⟩++S))),.val (.fix (.string (⟨#[99,111,110,115,116,114,97,105,110,116,32]⟩++N++⟨#[40]⟩++S++⟨#[41,59]⟩))),.val (.fix (.bool true)),.val (.fix (.bool true)),.val (.fix (.agg #[.int .i64 k,.string N,.bool true,.slice A3 dm.length n3,.int .i64 sz,.bool o,.slice A6 vs.length n6,.int .i64 ak])),.val (.fix (.bool true)),.val (.fix (.bool true)),.val (.fix (.bool true)),.val (.fix (.pointer (some ⟨w.heap.size,2,none⟩))),.val (.fix (.bool true)),.val (.fix (.bool false)),.val (.fix (.bool false)),.val (.fix (.bool false)),.none,.none,.none,.val (.fix (.bool false)),.val (.fix (.string (⟨#[99,111,110,115,116,114,97,105,110,116,32]⟩++N++⟨#[40]⟩++S++⟨#[41,59]⟩))),.val (.fix (.bool false))].getD jK .none) [] (by kernel_rfl) (by kernel_rfl) (by kernel_rfl) rfl M (fun _ h=>by cases h) (fun _ h=>by cases h) ?_ ?_ ?_
    case refine_1=>
     intro s;simp only[fr,Act.put,List.append_eq,List.cons_append,List.nil_append,List.setIfInBounds_toArray,List.set_cons_zero,List.set_cons_succ,Nat.reduceAdd];rfl
    case refine_2=>
     refine SC 0 1 rfl ?_ (SC 1 2 rfl ?_ (SC 2 3 rfl ?_ (SC 3 4 rfl ?_ (SC 4 5 rfl ?_ (SC 5 6 rfl ?_ (SC 6 7 rfl ?_ (SC 7 8 rfl ?_ (SC 8 9 rfl ?_ (SC 9 10 rfl ?_ (SC 10 11 rfl ?_ (SC 11 12 rfl ?_ (SC 12 13 rfl ?_ (SC 13 14 rfl ?_ (SC 14 15 rfl ?_ (SC 15 16 rfl ?_ (SC 16 17 rfl ?_ (SC 17 18 rfl ?_ (SC 18 19 rfl ?_ (SC 19 20 rfl ?_ (SC 20 21 rfl ?_ (SC 21 22 rfl ?_ (SC 22 23 rfl ?_ (SC 23 24 rfl ?_ Steps.nil)))))))))))))))))))))));all_goals (intro L s w9 hN hU hi hS K hK;dsimp only at hK⊢;simp only[Act.put,List.setIfInBounds_toArray,List.set_cons_zero,List.set_cons_succ]at hK)
     ·go_simp;exact hK.out _ _ (hS.v0 rfl rfl rfl)
     ·have e0:=hS.fx 0 rfl rfl (hN.out 0 rfl);simp only[e0]at hK⊢;obtain ⟨u1,u2,u3,u4,u5,u6,u7,u8⟩:=Blk.eight (hS.mem.k (i:=0) rfl);go_simp;exact hK.out _ _ (hS.v0 rfl rfl rfl)
     ·have e1:=hS.fx 1 rfl rfl (hN.out 1 rfl);simp only[e1]at hK⊢;have z1:=hz1.out;go_simp;exact hK.out _ _ (hS.v0 rfl rfl rfl)
     ·have e2:=hS.fx 2 rfl rfl (hN.out 2 rfl);simp only[e2]at hK⊢;have z1:=hz2.out;go_simp;exact hK.out _ _ (hS.v0 rfl rfl rfl)
     ·go_simp;exact hK.out _ _ (hS.v0 rfl rfl rfl)
     ·have e3:=hS.fx 3 rfl rfl (hN.out 3 rfl);simp only[e3]at hK⊢;have e4:=hS.fx 4 rfl rfl (hN.out 4 rfl);simp only[e4]at hK⊢;have z1:=hz3.out;go_simp;exact hK.out _ _ (hS.v0 rfl rfl rfl)
     ·have e5:=hS.fx 5 rfl rfl (hN.out 5 rfl);simp only[e5]at hK⊢;have z1:=hz4.out;go_simp;exact hK.out _ _ (hS.v0 rfl rfl rfl)
     ·go_simp;exact hK.out _ _ (hS.v0 rfl rfl rfl)
     ·have e7:=hS.fx 7 rfl rfl (hN.out 7 rfl);simp only[e7]at hK⊢;go_simp;exact hK.out _ _ (hS.v0 rfl rfl rfl)
     ·have e8:=hS.fx 8 rfl rfl (hN.out 8 rfl);simp only[e8]at hK⊢;obtain ⟨u1,u2,u3,u4,u5,u6,u7,u8⟩:=Blk.eight (hS.mem.k (i:=0) rfl);go_simp;exact hK.out _ _ (hS.v0 rfl rfl rfl)
     ·have e9:=hS.fx 9 rfl rfl (hN.out 9 rfl);simp only[e9]at hK⊢;have e8:=hS.fx 8 rfl rfl (hN.out 8 rfl);simp only[e8]at hK⊢;go_simp;go_at_call 107;refine (HB.out _).mono ?_;rintro e9 w10 ⟨rfl,q⟩;exact hK.out _ _ (hS.val rfl (noStore_of rfl) q rfl)
     ·have e8:=hS.fx 8 rfl rfl (hN.out 8 rfl);simp only[e8]at hK⊢;have e10:=hS.fx 10 rfl rfl (hN.out 10 rfl);simp only[e10]at hK⊢;go_simp;exact hK.out _ _ (hS.v0 rfl rfl rfl)
     ·have e11:=hS.fx 11 rfl rfl (hN.out 11 rfl);simp only[e11]at hK⊢;go_simp;exact hK.out _ _ (hS.v0 rfl rfl rfl)
     ·have e12:=hS.fx 12 rfl rfl (hN.out 12 rfl);simp only[e12]at hK⊢;go_simp;exact hK.out _ _ (hS.v0 rfl rfl rfl)
     ·have e13:=hS.fx 13 rfl rfl (hN.out 13 rfl);simp only[e13]at hK⊢;have e12:=hS.fx 12 rfl rfl (hN.out 12 rfl);simp only[e12]at hK⊢;obtain ⟨u1,u2,u3,u4,u5,u6,u7,u8⟩:=Blk.eight (hS.mem.k (i:=0) rfl);go_simp;exact hK.out _ _ (hS.v0 rfl rfl rfl)
     ·have e14:=hS.fx 14 rfl rfl (hN.out 14 rfl);simp only[e14]at hK⊢;have e12:=hS.fx 12 rfl rfl (hN.out 12 rfl);simp only[e12]at hK⊢;go_simp;exact hK.out _ _ (hS.v0 rfl rfl rfl)
     ·have e12:=hS.fx 12 rfl rfl (hN.out 12 rfl);simp only[e12]at hK⊢;have e15:=hS.fx 15 rfl rfl (hN.out 15 rfl);simp only[e15]at hK⊢;go_simp;exact hK.out _ _ (hS.v0 rfl rfl rfl)
     ·have e16:=hS.fx 16 rfl rfl (hN.out 16 rfl);simp only[e16]at hK⊢;go_simp;exact hK.out _ _ (hS.v0 rfl rfl rfl)
     ·have e17:=hS.fx 17 rfl rfl (hN.out 17 rfl);simp only[e17]at hK⊢;go_simp;exact hK.out undef _ (hS.k0 rfl rfl)
     ·have e17:=hS.fx 17 rfl rfl (hN.out 17 rfl);simp only[e17]at hK⊢;go_simp;exact hK.out undef _ (hS.k0 rfl rfl)
     ·have e17:=hS.fx 17 rfl rfl (hN.out 17 rfl);simp only[e17]at hK⊢;go_simp;exact hK.out undef _ (hS.k0 rfl rfl)
     ·have e17:=hS.fx 17 rfl rfl (hN.out 17 rfl);simp only[e17]at hK⊢;go_simp;exact hK.out _ _ (hS.v0 rfl rfl rfl)
     ·have e6:=hS.fx 6 rfl rfl (hN.out 6 rfl);simp only[e6]at hK⊢;go_simp;exact hK.out _ _ (hS.v0 rfl rfl rfl)
     ·have e21:=hS.fx 21 rfl rfl (hN.out 21 rfl);simp only[e21]at hK⊢;go_simp;exact hK.out _ _ (hS.v0 rfl rfl rfl)
    intro L s w9 hall hS;have eS:s 22= .string (⟨#[99,111,110,115,116,114,97,105,110,116,32]⟩++N++⟨#[40]⟩++S++⟨#[41,59]⟩):=hS.val_at 22 rfl (by decide) (hall 22 (by decide));have eB:s 23= .bool false:=hS.val_at 23 rfl (by decide) (hall 23 (by decide));go_wp2;refine bodyPost_ret (v:= .tuple #[.string (⟨#[99,111,110,115,116,114,97,105,110,116,32]⟩++N++⟨#[40]⟩++S++⟨#[41,59]⟩),.bool false]) (by simp[results,Tryz.results76,go_sem,eS,eB]) rfl ⟨?_,hS.mem.bel⟩;rw[HX.out,HF.out];rfl
   |false=>
    refine region_st (n:=24) (frame:= ?frame4) (fun jK=>[.val (.fix (.pointer (some ⟨w.heap.size,1,none⟩))),.val (.fix (.string N)),.val (.fix (.string (⟨#[99,111,110,115,116,114,97,105,110,116,32]⟩++N))),.val (.fix (.string (⟨#[99,111,110,115,116,114,97,105,110,116,32]⟩++N++⟨#[40]⟩))),.val (.fix (.string S)),.val (.fix (.string (⟨#[99,111,110,115,116,114,97,105,110,116,32]⟩++N++⟨#[40]⟩++S))),.val (.fix (.string (⟨#[99,111,110,115,116,114,97,105,110,116,32]⟩++N++⟨#[40]⟩++S++⟨#[41,59]⟩))),.val (.fix (.bool true)),.val (.fix (.bool true)),.val (.fix (.agg #[.int .i64 k,.string N,.bool false,.slice A3 dm.length n3,.int .i64 sz,.bool o,.slice A6 vs.length n6,.int .i64 ak])),.val (.fix (.bool true)),.val (.fix (.bool true)),.val (.fix (.bool true)),.val (.fix (.pointer (some ⟨w.heap.size,2,none⟩))),.val (.fix (.bool false)),.val (.fix (.bool true)),.val (.fix (.bool true)),.val (.fix (.bool true)),.val (.fix (.pointer (some ⟨w.heap.size,1,none⟩))),.val (.fix (.string N)),.val (.fix (.bool nb)),.val (.fix (.bool nb)),.val (.fix (.string (⟨#[99,111,110,115,116,114,97,105,110,116,32]⟩++N++⟨#[40]⟩++S++⟨#[41,59]⟩))),.val (.fix (.bool nb))].getD jK .none) [] (by kernel_rfl) (by kernel_rfl) (by kernel_rfl) rfl M (fun _ h=>by cases h) (fun _ h=>by cases h) ?_ ?_ ?_
    case refine_1=>
     intro s;simp only[fr,Act.put,List.append_eq,List.cons_append,List.nil_append,List.setIfInBounds_toArray,List.set_cons_zero,List.set_cons_succ,Nat.reduceAdd];rfl
    case refine_2=>
     refine SC 0 1 rfl ?_ (SC 1 2 rfl ?_ (SC 2 3 rfl ?_ (SC 3 4 rfl ?_ (SC 4 5 rfl ?_ (SC 5 6 rfl ?_ (SC 6 7 rfl ?_ (SC 7 8 rfl ?_ (SC 8 9 rfl ?_ (SC 9 10 rfl ?_ (SC 10 11 rfl ?_ (SC 11 12 rfl ?_ (SC 12 13 rfl ?_ (SC 13 14 rfl ?_ (SC 14 15 rfl ?_ (SC 15 16 rfl ?_ (SC 16 17 rfl ?_ (SC 17 18 rfl ?_ (SC 18 19 rfl ?_ (SC 19 20 rfl ?_ (SC 20 21 rfl ?_ (SC 21 22 rfl ?_ (SC 22 23 rfl ?_ (SC 23 24 rfl ?_ Steps.nil)))))))))))))))))))))));all_goals (intro L s w9 hN hU hi hS K hK;dsimp only at hK⊢;simp only[Act.put,List.setIfInBounds_toArray,List.set_cons_zero,List.set_cons_succ]at hK)
     ·go_simp;exact hK.out _ _ (hS.v0 rfl rfl rfl)
     ·have e0:=hS.fx 0 rfl rfl (hN.out 0 rfl);simp only[e0]at hK⊢;obtain ⟨u1,u2,u3,u4,u5,u6,u7,u8⟩:=Blk.eight (hS.mem.k (i:=0) rfl);go_simp;exact hK.out _ _ (hS.v0 rfl rfl rfl)
     ·have e1:=hS.fx 1 rfl rfl (hN.out 1 rfl);simp only[e1]at hK⊢;have z1:=hz1.out;go_simp;exact hK.out _ _ (hS.v0 rfl rfl rfl)
     ·have e2:=hS.fx 2 rfl rfl (hN.out 2 rfl);simp only[e2]at hK⊢;have z1:=hz2.out;go_simp;exact hK.out _ _ (hS.v0 rfl rfl rfl)
     ·go_simp;exact hK.out _ _ (hS.v0 rfl rfl rfl)
     ·have e3:=hS.fx 3 rfl rfl (hN.out 3 rfl);simp only[e3]at hK⊢;have e4:=hS.fx 4 rfl rfl (hN.out 4 rfl);simp only[e4]at hK⊢;have z1:=hz3.out;go_simp;exact hK.out _ _ (hS.v0 rfl rfl rfl)
     ·have e5:=hS.fx 5 rfl rfl (hN.out 5 rfl);simp only[e5]at hK⊢;have z1:=hz4.out;go_simp;exact hK.out _ _ (hS.v0 rfl rfl rfl)
     ·go_simp;exact hK.out _ _ (hS.v0 rfl rfl rfl)
     ·have e7:=hS.fx 7 rfl rfl (hN.out 7 rfl);simp only[e7]at hK⊢;go_simp;exact hK.out _ _ (hS.v0 rfl rfl rfl)
     ·have e8:=hS.fx 8 rfl rfl (hN.out 8 rfl);simp only[e8]at hK⊢;obtain ⟨u1,u2,u3,u4,u5,u6,u7,u8⟩:=Blk.eight (hS.mem.k (i:=0) rfl);go_simp;exact hK.out _ _ (hS.v0 rfl rfl rfl)
     ·have e9:=hS.fx 9 rfl rfl (hN.out 9 rfl);simp only[e9]at hK⊢;have e8:=hS.fx 8 rfl rfl (hN.out 8 rfl);simp only[e8]at hK⊢;go_simp;go_at_call 107;refine (HB.out _).mono ?_;rintro e9 w10 ⟨rfl,q⟩;exact hK.out _ _ (hS.val rfl (noStore_of rfl) q rfl)
     ·have e8:=hS.fx 8 rfl rfl (hN.out 8 rfl);simp only[e8]at hK⊢;have e10:=hS.fx 10 rfl rfl (hN.out 10 rfl);simp only[e10]at hK⊢;go_simp;exact hK.out _ _ (hS.v0 rfl rfl rfl)
     ·have e11:=hS.fx 11 rfl rfl (hN.out 11 rfl);simp only[e11]at hK⊢;go_simp;exact hK.out _ _ (hS.v0 rfl rfl rfl)
     ·have e12:=hS.fx 12 rfl rfl (hN.out 12 rfl);simp only[e12]at hK⊢;go_simp;exact hK.out _ _ (hS.v0 rfl rfl rfl)
     ·have e13:=hS.fx 13 rfl rfl (hN.out 13 rfl);simp only[e13]at hK⊢;have e12:=hS.fx 12 rfl rfl (hN.out 12 rfl);simp only[e12]at hK⊢;obtain ⟨u1,u2,u3,u4,u5,u6,u7,u8⟩:=Blk.eight (hS.mem.k (i:=0) rfl);go_simp;exact hK.out _ _ (hS.v0 rfl rfl rfl)
     ·have e14:=hS.fx 14 rfl rfl (hN.out 14 rfl);simp only[e14]at hK⊢;have e12:=hS.fx 12 rfl rfl (hN.out 12 rfl);simp only[e12]at hK⊢;go_simp;exact hK.out _ _ (hS.v0 rfl rfl rfl)
     ·have e12:=hS.fx 12 rfl rfl (hN.out 12 rfl);simp only[e12]at hK⊢;have e15:=hS.fx 15 rfl rfl (hN.out 15 rfl);simp only[e15]at hK⊢;go_simp;exact hK.out _ _ (hS.v0 rfl rfl rfl)
     ·have e16:=hS.fx 16 rfl rfl (hN.out 16 rfl);simp only[e16]at hK⊢;go_simp;exact hK.out _ _ (hS.v0 rfl rfl rfl)
     ·have e17:=hS.fx 17 rfl rfl (hN.out 17 rfl);simp only[e17]at hK⊢;go_simp;exact hK.out _ _ (hS.v0 rfl rfl rfl)
     ·have e18:=hS.fx 18 rfl rfl (hN.out 18 rfl);simp only[e18]at hK⊢;have e17:=hS.fx 17 rfl rfl (hN.out 17 rfl);simp only[e17]at hK⊢;obtain ⟨u1,u2,u3,u4,u5,u6,u7,u8⟩:=Blk.eight (hS.mem.k (i:=0) rfl);go_simp;exact hK.out _ _ (hS.v0 rfl rfl rfl)
     ·have e19:=hS.fx 19 rfl rfl (hN.out 19 rfl);simp only[e19]at hK⊢;have e17:=hS.fx 17 rfl rfl (hN.out 17 rfl);simp only[e17]at hK⊢;go_simp;go_at_call 108;refine (HN.out _ (hE.below hS.mem.bel)).mono ?_;rintro e9 w10 ⟨rfl,q⟩;exact hK.out _ _ (hS.val rfl (noStore_of rfl) q rfl)
     ·have e17:=hS.fx 17 rfl rfl (hN.out 17 rfl);simp only[e17]at hK⊢;have e20:=hS.fx 20 rfl rfl (hN.out 20 rfl);simp only[e20]at hK⊢;go_simp;exact hK.out _ _ (hS.v0 rfl rfl rfl)
     ·have e6:=hS.fx 6 rfl rfl (hN.out 6 rfl);simp only[e6]at hK⊢;go_simp;exact hK.out _ _ (hS.v0 rfl rfl rfl)
     ·have e21:=hS.fx 21 rfl rfl (hN.out 21 rfl);simp only[e21]at hK⊢;go_simp;exact hK.out _ _ (hS.v0 rfl rfl rfl)
    intro L s w9 hall hS;have eS:s 22= .string (⟨#[99,111,110,115,116,114,97,105,110,116,32]⟩++N++⟨#[40]⟩++S++⟨#[41,59]⟩):=hS.val_at 22 rfl (by decide) (hall 22 (by decide));have eB:s 23= .bool nb:=hS.val_at 23 rfl (by decide) (hall 23 (by decide));go_wp2;refine bodyPost_ret (v:= .tuple #[.string (⟨#[99,111,110,115,116,114,97,105,110,116,32]⟩++N++⟨#[40]⟩++S++⟨#[41,59]⟩),.bool nb]) (by simp[results,Tryz.results76,go_sem,eS,eB]) rfl ⟨?_,hS.mem.bel⟩;rw[HX.out,HF.out];rfl
end Go.Proofs.YtjlhjabgclflcaaGreatDoor

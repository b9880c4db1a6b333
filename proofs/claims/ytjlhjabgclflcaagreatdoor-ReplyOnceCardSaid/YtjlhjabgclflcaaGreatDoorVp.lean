import Derived.Test.YtjlhjabgclflcaaGreatDoorVo
set_option maxHeartbeats 40000000
set_option maxRecDepth 100000
set_option linter.unusedSimpArgs false
set_option linter.unusedVariables false
namespace Go.Proofs.YtjlhjabgclflcaaGreatDoor
open Go.RowKit Num Go.Joins
theorem par_eq (x:It):parS x=(truthS x.bool++[58,32]++x.name++[32,61,32]++(joinS (x.vals.map plainS)).1++[59],
 (joinS (x.vals.map plainS)).2&&((x.vals.length==1)&&((x.vals.map (·.k)==[if x.bool then 2 else 1])&&(bareB x&&nameB x.name)))):=rfl
theorem vpar_any {F:Nat→Prop} (k:Int) (nm:List UInt8) (b:Bool) (dm:List (Int×Int)) (n3:Nat) (A3:Option Addr) (sz:Int) (o:Bool) (vs:List Ex) (n6:Nat) (A6:Option Addr) (ak:Int) (w:World) (hE:Env w) (hnm:nm.length≤10000) (hr:∀y∈vs,RngE y) (ha:(layE 159).row.P F w (.slice A6 vs.length n6) vs):Calls Tryz.prog 73 #[.agg #[.int .i64 k,.string ⟨nm.toArray⟩,.bool b,.slice A3 dm.length n3,.int .i64 sz,.bool o,.slice A6 vs.length n6,.int .i64 ak]] w fun e w'=>e= .returned (TXV (parS ⟨k,nm,b,dm,sz,o,vs,ak⟩))∧Below w.heap.size w w':=by
 have hF:=par_eq ⟨k,nm,b,dm,sz,o,vs,ak⟩;have hJl:=joinS_len (g:=plainS) (l:=vs) (fun y hy h=>plain0_len (hr y hy).1 h);have HJ:=Lib.hid (fun (w':World) (q:Below w.heap.size w w')=>vjoin_ex (f:=105) (F:=F) plainS (fun _ _=>rfl) A6 n6 vs w' (Dt.below _ ha q (Nat.le_refl _)) (hE.below q) (fun y hy h=>Nat.le_trans (plain0_len (hr y hy).1 h) (by decide)) (fun y hy A' c' w' hE' _=>vplain_any y.k y.n y.s y.l.length c' A' (hr y hy).1 w' hE'));dsimp only at hF;generalize joinS (vs.map plainS)=J at*;obtain ⟨t,bt⟩:=J;dsimp only[TXV]at hF hJl HJ;have HT:=Lib.hid (vtruth_any b);have HN:=Lib.hid (vname_any ⟨nm.toArray⟩);have HB:=Lib.hid (vbare_any k ⟨nm.toArray⟩ b dm.length n3 A3 sz o vs.length n6 A6 ak);have hbr:bareB ⟨k,nm,b,dm,sz,o,vs,ak⟩=(dm.length==0&&(sz==0&&(!o&&ak==0))):=by
  unfold bareB;cases dm<;>rfl
 rw[hbr]at hF;have hX:∀B,(Value.tuple #[.string ((⟨(truthS b).toArray⟩:ByteArray)++⟨#[58,32]⟩++⟨nm.toArray⟩++⟨#[32,61,32]⟩++⟨t.toArray⟩++⟨#[59]⟩),.bool B])=TXV (truthS b++[58,32]++nm++[32,61,32]++t++[59],B):=fun B=>by
  have h:((⟨(truthS b).toArray⟩:ByteArray)++⟨#[58,32]⟩++⟨nm.toArray⟩++⟨#[32,61,32]⟩++⟨t.toArray⟩++⟨#[59]⟩)=⟨(truthS b++[58,32]++nm++[32,61,32]++t++[59]).toArray⟩:=by
   apply ByteArray.ext;simp
  unfold TXV;rw[h]
 have hTl:(⟨(truthS b).toArray⟩:ByteArray).size≤10:=by cases b<;>decide
 have hNl:(⟨nm.toArray⟩:ByteArray).size≤10000:=hnm;have hSl:(⟨t.toArray⟩:ByteArray).size≤600000:=hJl;have hnb:nameB (⟨nm.toArray⟩:ByteArray).data.toList=nameB nm:=rfl;rw[hnb]at HN;generalize (⟨(truthS b).toArray⟩:ByteArray)=T at*;generalize (⟨nm.toArray⟩:ByteArray)=N at*;generalize (⟨t.toArray⟩:ByteArray)=S at*;have hz1:Hid (¬9223372036854775807<T.size+2):=by show ¬_;omega
 have hz2:Hid (¬9223372036854775807<T.size+2+N.size):=by show ¬_;omega
 have hz3:Hid (¬9223372036854775807<T.size+2+N.size+3):=by show ¬_;omega
 have hz4:Hid (¬9223372036854775807<T.size+2+N.size+3+S.size):=by show ¬_;omega
 have hz5:Hid (¬9223372036854775807<T.size+2+N.size+3+S.size+1):=by show ¬_;omega
 clear hTl hNl hSl hJl hnm;have HF:=Lib.hid hF;have HX:=Lib.hid hX;have HA:=Lib.hid ha;clear hF hX ha hbr hnb;go_enter Tryz.func73,Tryz.ntmps73;go_wp2_with fail;refine (HJ.out _ (below_alloc1 w (.cells #[.int .i64 k,.string N,.bool b,.slice A3 dm.length n3,.int .i64 sz,.bool o,.slice A6 vs.length n6,.int .i64 ak] 97))).mono ?_;rintro e w1 ⟨rfl,q1⟩;have M:Mem w w1 [(w.heap.size,97,#[.int .i64 k,.string N,.bool b,.slice A3 dm.length n3,.int .i64 sz,.bool o,.slice A6 vs.length n6,.int .i64 ak])] []:=((Mem.start w).new 97 _).below q1;clear q1;obtain ⟨want,hw⟩:∃q:Int,q=if b=true then 2 else 1:=⟨_,rfl⟩
 rw[←hw]at HF;generalize (dm.length==0&&(sz==0&&(!o&&ak==0)))=bb at*;generalize nameB nm=nb at*;obtain ⟨m1,m2,m3,m4,m5,m6,m7,m8⟩:=Blk.eight (M.k (i:=0) rfl);go_upto_if 14 with fail;go_cut [4,5,6] (fun s4 s5 s6 wx=>s4=Value.string S∧s5= .bool bt∧s6= .int .i64 want∧Mem w wx [(w.heap.size,97,#[.int .i64 k,.string N,.bool b,.slice A3 dm.length n3,.int .i64 sz,.bool o,.slice A6 vs.length n6,.int .i64 ak])] [])
 case first=>
  cases b with
  |true=>
   subst hw;go_wp2_with fail;go_meet;exact ⟨rfl,rfl,rfl,M⟩
  |false=>
   subst hw;go_wp2_with fail;go_meet;exact ⟨rfl,rfl,rfl,M⟩
 case rest=>
  clear M hw m1 m2 m3 m4 m5 m6 m7 m8;obtain ⟨rfl,rfl,rfl,M⟩:=hcut;go_upto_region 5 with fail;cases bt with
  |false=>
   generalize vs.length=vn at*;refine region_st (n:=38) (frame:= ?frame1) (fun jK=>[.val (.fix (.pointer (some ⟨w.heap.size,2,none⟩))),.val (.fix (.bool b)),.val (.fix (.string T)),.val (.fix (.string (T++⟨#[58,32]⟩))),.val (.fix (.pointer (some ⟨w.heap.size,1,none⟩))),.val (.fix (.string N)),.val (.fix (.string (T++⟨#[58,32]⟩++N))),.val (.fix (.string (T++⟨#[58,32]⟩++N++⟨#[32,61,32]⟩))),.val (.fix (.string S)),.val (.fix (.string (T++⟨#[58,32]⟩++N++⟨#[32,61,32]⟩++S))),.val (.fix (.string (T++⟨#[58,32]⟩++N++⟨#[32,61,32]⟩++S++⟨#[59]⟩))),.val (.fix (.bool false)),.val (.fix (.bool false)),.none,.none,.none,.none,.val (.fix (.bool false)),.val (.fix (.bool false)),.none,.none,.none,.none,.none,.none,.none,.val (.fix (.bool false)),.val (.fix (.bool false)),.none,.none,.val (.fix (.bool false)),.val (.fix (.bool false)),.none,.none,.none,.val (.fix (.bool false)),.val (.fix (.string (T++⟨#[58,32]⟩++N++⟨#[32,61,32]⟩++S++⟨#[59]⟩))),.val (.fix (.bool false))].getD jK .none) [] (by kernel_rfl) (by kernel_rfl) (by kernel_rfl) rfl M (fun _ h=>by cases h) (fun _ h=>by cases h) ?_ ?_ ?_
   case refine_1=>
    intro s;simp only[fr,Act.put,List.append_eq,List.cons_append,List.nil_append,List.setIfInBounds_toArray,List.set_cons_zero,List.set_cons_succ,Nat.reduceAdd];rfl
   case refine_2=>
    refine SC 0 1 rfl ?_ (SC 1 2 rfl ?_ (SC 2 3 rfl ?_ (SC 3 4 rfl ?_ (SC 4 5 rfl ?_ (SC 5 6 rfl ?_ (SC 6 7 rfl ?_ (SC 7 8 rfl ?_ (SC 8 9 rfl ?_ (SC 9 10 rfl ?_ (SC 10 11 rfl ?_ (SC 11 12 rfl ?_ (SC 12 13 rfl ?_ (SC 13 14 rfl ?_ (SC 14 15 rfl ?_ (SC 15 16 rfl ?_ (SC 16 17 rfl ?_ (SC 17 18 rfl ?_ (SC 18 19 rfl ?_ (SC 19 20 rfl ?_ (SC 20 21 rfl ?_ (SC 21 22 rfl ?_ (SC 22 23 rfl ?_ (SC 23 24 rfl ?_ (SC 24 25 rfl ?_ (SC 25 26 rfl ?_ (SC 26 27 rfl ?_ (SC 27 28 rfl ?_ (SC 28 29 rfl ?_ (SC 29 30 rfl ?_ (SC 30 31 rfl ?_ (SC 31 32 rfl ?_ (SC 32 33 rfl ?_ (SC 33 34 rfl ?_ (SC 34 35 rfl ?_ (SC 35 36 rfl ?_ (SC 36 37 rfl ?_ (SC 37 38 rfl ?_ Steps.nil)))))))))))))))))))))))))))))))))))));all_goals (intro L s w9 hN hU hi hS K hK;dsimp only at hK⊢;simp only[Act.put,List.setIfInBounds_toArray,List.set_cons_zero,List.set_cons_succ]at hK)
    ·go_simp;exact hK.out _ _ (hS.v0 rfl rfl rfl)
    ·have e0:=hS.fx 0 rfl rfl (hN.out 0 rfl);simp only[e0]at hK⊢;obtain ⟨u1,u2,u3,u4,u5,u6,u7,u8⟩:=Blk.eight (hS.mem.k (i:=0) rfl);go_simp;exact hK.out _ _ (hS.v0 rfl rfl rfl)
    ·have e1:=hS.fx 1 rfl rfl (hN.out 1 rfl);simp only[e1]at hK⊢;go_simp;go_at_call 106;refine (HT.out _).mono ?_;rintro e9 w10 ⟨rfl,q⟩;exact hK.out _ _ (hS.val rfl (noStore_of rfl) q rfl)
    ·have e2:=hS.fx 2 rfl rfl (hN.out 2 rfl);simp only[e2]at hK⊢;have z1:=hz1.out;go_simp;exact hK.out _ _ (hS.v0 rfl rfl rfl)
    ·go_simp;exact hK.out _ _ (hS.v0 rfl rfl rfl)
    ·have e4:=hS.fx 4 rfl rfl (hN.out 4 rfl);simp only[e4]at hK⊢;obtain ⟨u1,u2,u3,u4,u5,u6,u7,u8⟩:=Blk.eight (hS.mem.k (i:=0) rfl);go_simp;exact hK.out _ _ (hS.v0 rfl rfl rfl)
    ·have e3:=hS.fx 3 rfl rfl (hN.out 3 rfl);simp only[e3]at hK⊢;have e5:=hS.fx 5 rfl rfl (hN.out 5 rfl);simp only[e5]at hK⊢;have z1:=hz2.out;go_simp;exact hK.out _ _ (hS.v0 rfl rfl rfl)
    ·have e6:=hS.fx 6 rfl rfl (hN.out 6 rfl);simp only[e6]at hK⊢;have z1:=hz3.out;go_simp;exact hK.out _ _ (hS.v0 rfl rfl rfl)
    ·go_simp;exact hK.out _ _ (hS.v0 rfl rfl rfl)
    ·have e7:=hS.fx 7 rfl rfl (hN.out 7 rfl);simp only[e7]at hK⊢;have e8:=hS.fx 8 rfl rfl (hN.out 8 rfl);simp only[e8]at hK⊢;have z1:=hz4.out;go_simp;exact hK.out _ _ (hS.v0 rfl rfl rfl)
    ·have e9:=hS.fx 9 rfl rfl (hN.out 9 rfl);simp only[e9]at hK⊢;have z1:=hz5.out;go_simp;exact hK.out _ _ (hS.v0 rfl rfl rfl)
    ·go_simp;exact hK.out _ _ (hS.v0 rfl rfl rfl)
    ·have e11:=hS.fx 11 rfl rfl (hN.out 11 rfl);simp only[e11]at hK⊢;go_simp;exact hK.out _ _ (hS.v0 rfl rfl rfl)
    ·have e12:=hS.fx 12 rfl rfl (hN.out 12 rfl);simp only[e12]at hK⊢;go_simp;exact hK.out undef _ (hS.k0 rfl rfl)
    ·have e12:=hS.fx 12 rfl rfl (hN.out 12 rfl);simp only[e12]at hK⊢;go_simp;exact hK.out undef _ (hS.k0 rfl rfl)
    ·have e12:=hS.fx 12 rfl rfl (hN.out 12 rfl);simp only[e12]at hK⊢;go_simp;exact hK.out undef _ (hS.k0 rfl rfl)
    ·have e12:=hS.fx 12 rfl rfl (hN.out 12 rfl);simp only[e12]at hK⊢;go_simp;exact hK.out undef _ (hS.k0 rfl rfl)
    ·have e12:=hS.fx 12 rfl rfl (hN.out 12 rfl);simp only[e12]at hK⊢;go_simp;exact hK.out _ _ (hS.v0 rfl rfl rfl)
    ·have e17:=hS.fx 17 rfl rfl (hN.out 17 rfl);simp only[e17]at hK⊢;go_simp;exact hK.out _ _ (hS.v0 rfl rfl rfl)
    ·have e18:=hS.fx 18 rfl rfl (hN.out 18 rfl);simp only[e18]at hK⊢;go_simp;exact hK.out undef _ (hS.k0 rfl rfl)
    ·have e18:=hS.fx 18 rfl rfl (hN.out 18 rfl);simp only[e18]at hK⊢;go_simp;exact hK.out undef _ (hS.k0 rfl rfl)
    ·have e18:=hS.fx 18 rfl rfl (hN.out 18 rfl);simp only[e18]at hK⊢;go_simp;exact hK.out undef _ (hS.k0 rfl rfl)
    ·have e18:=hS.fx 18 rfl rfl (hN.out 18 rfl);simp only[e18]at hK⊢;go_simp;exact hK.out undef _ (hS.k0 rfl rfl)
    ·have e18:=hS.fx 18 rfl rfl (hN.out 18 rfl);simp only[e18]at hK⊢;go_simp;exact hK.out undef _ (hS.k0 rfl rfl)
    ·have e18:=hS.fx 18 rfl rfl (hN.out 18 rfl);simp only[e18]at hK⊢;go_simp;exact hK.out undef _ (hS.k0 rfl rfl)
    ·have e18:=hS.fx 18 rfl rfl (hN.out 18 rfl);simp only[e18]at hK⊢;go_simp;exact hK.out undef _ (hS.k0 rfl rfl)
    ·have e18:=hS.fx 18 rfl rfl (hN.out 18 rfl);simp only[e18]at hK⊢;go_simp;exact hK.out _ _ (hS.v0 rfl rfl rfl)
    ·have e26:=hS.fx 26 rfl rfl (hN.out 26 rfl);simp only[e26]at hK⊢;go_simp;exact hK.out _ _ (hS.v0 rfl rfl rfl)
    ·have e27:=hS.fx 27 rfl rfl (hN.out 27 rfl);simp only[e27]at hK⊢;go_simp;exact hK.out undef _ (hS.k0 rfl rfl)
    ·have e27:=hS.fx 27 rfl rfl (hN.out 27 rfl);simp only[e27]at hK⊢;go_simp;exact hK.out undef _ (hS.k0 rfl rfl)
    ·have e27:=hS.fx 27 rfl rfl (hN.out 27 rfl);simp only[e27]at hK⊢;go_simp;exact hK.out _ _ (hS.v0 rfl rfl rfl)
    ·have e30:=hS.fx 30 rfl rfl (hN.out 30 rfl);simp only[e30]at hK⊢;go_simp;exact hK.out _ _ (hS.v0 rfl rfl rfl)
    ·have e31:=hS.fx 31 rfl rfl (hN.out 31 rfl);simp only[e31]at hK⊢;go_simp;exact hK.out undef _ (hS.k0 rfl rfl)
    ·have e31:=hS.fx 31 rfl rfl (hN.out 31 rfl);simp only[e31]at hK⊢;go_simp;exact hK.out undef _ (hS.k0 rfl rfl)
    ·have e31:=hS.fx 31 rfl rfl (hN.out 31 rfl);simp only[e31]at hK⊢;go_simp;exact hK.out undef _ (hS.k0 rfl rfl)
    ·have e31:=hS.fx 31 rfl rfl (hN.out 31 rfl);simp only[e31]at hK⊢;go_simp;exact hK.out _ _ (hS.v0 rfl rfl rfl)
    ·have e10:=hS.fx 10 rfl rfl (hN.out 10 rfl);simp only[e10]at hK⊢;go_simp;exact hK.out _ _ (hS.v0 rfl rfl rfl)
    ·have e35:=hS.fx 35 rfl rfl (hN.out 35 rfl);simp only[e35]at hK⊢;go_simp;exact hK.out _ _ (hS.v0 rfl rfl rfl)
   intro L s w9 hall hS;have eS:s 36= .string (T++⟨#[58,32]⟩++N++⟨#[32,61,32]⟩++S++⟨#[59]⟩):=hS.val_at 36 rfl (by decide) (hall 36 (by decide));have eB:s 37= .bool false:=hS.val_at 37 rfl (by decide) (hall 37 (by decide));go_wp2;refine bodyPost_ret (v:= .tuple #[.string (T++⟨#[58,32]⟩++N++⟨#[32,61,32]⟩++S++⟨#[59]⟩),.bool false]) (by simp[results,Tryz.results73,go_sem,eS,eB]) rfl ⟨?_,hS.mem.bel⟩;rw[HX.out,HF.out];rfl
  |true=>
   by_cases hl:vs.length=1
   ·obtain ⟨y,rfl⟩:=List.length_eq_one_iff.1 hl;obtain ⟨vb,vo,hA,hv3,hc⟩:=row_ex HA.out (by simp);obtain ⟨c1,-⟩:=hc 0 (by simp);rw[Nat.zero_mul,Nat.add_zero]at c1;subst hA;have hv4:=Lib.hid (show w.cell? ⟨vb,vo,none⟩=some (.int .i64 y.k) from c1);replace HF:Hid (_=(_,true&&(true&&((y.k==want&&true)&&(bb&&nb))))):=HF;generalize y.k=vk at*;clear hc c1 HJ;have M:Mem w _ [(w.heap.size,97,#[.int .i64 k,.string N,.bool b,.slice A3 dm.length n3,.int .i64 sz,.bool o,.slice (some ⟨vb,vo,none⟩) 1 n6,.int .i64 ak])] []:=M;by_cases hv:vk=want
    ·have hv5:(vk==want)=true:=by simp[hv]
     have HV5:=Lib.hid hv5;clear hv;cases bb with
     |true=>
      refine region_st (n:=38) (frame:= ?frame2) (fun jK=>[.val (.fix (.pointer (some ⟨w.heap.size,2,none⟩))),.val (.fix (.bool b)),.val (.fix (.string T)),.val (.fix (.string (T++⟨#[58,32]⟩))),.val (.fix (.pointer (some ⟨w.heap.size,1,none⟩))),.val (.fix (.string N)),.val (.fix (.string (T++⟨#[58,32]⟩++N))),.val (.fix (.string (T++⟨#[58,32]⟩++N++⟨#[32,61,32]⟩))),.val (.fix (.string S)),.val (.fix (.string (T++⟨#[58,32]⟩++N++⟨#[32,61,32]⟩++S))),.val (.fix (.string (T++⟨#[58,32]⟩++N++⟨#[32,61,32]⟩++S++⟨#[59]⟩))),.val (.fix (.bool true)),.val (.fix (.bool true)),.val (.fix (.pointer (some ⟨w.heap.size,6,none⟩))),.val (.fix (.slice (some ⟨vb,vo,none⟩) 1 n6)),.val (.fix (.int .i64 1)),.val (.fix (.bool true)),.val (.fix (.bool true)),.val (.fix (.bool true)),.val (.fix (.pointer (some ⟨w.heap.size,6,none⟩))),.val (.fix (.slice (some ⟨vb,vo,none⟩) 1 n6)),.val (.fix (.pointer (some ⟨vb,vo,none⟩))),.val (.fix (.pointer (some ⟨vb,vo,none⟩))),.val (.fix (.int .i64 vk)),.val (.fix (.int .i64 want)),.val (.fix (.bool true)),.val (.fix (.bool true)),.val (.fix (.bool true)),.val (.fix (.agg #[.int .i64 k,.string N,.bool b,.slice A3 dm.length n3,.int .i64 sz,.bool o,.slice (some ⟨vb,vo,none⟩) 1 n6,.int .i64 ak])),.val (.fix (.bool true)),.val (.fix (.bool true)),.val (.fix (.bool true)),.val (.fix (.pointer (some ⟨w.heap.size,1,none⟩))),.val (.fix (.string N)),.val (.fix (.bool nb)),.val (.fix (.bool nb)),.val (.fix (.string (T++⟨#[58,32]⟩++N++⟨#[32,61,32]⟩++S++⟨#[59]⟩))),.val (.fix (.bool nb))].getD jK .none) [] (by kernel_rfl) (by kernel_rfl) (by kernel_rfl) rfl M (fun _ h=>by cases h) (fun _ h=>by cases h) ?_ ?_ ?_
      case refine_1=>
       intro s;simp only[fr,Act.put,List.append_eq,List.cons_append,List.nil_append,List.setIfInBounds_toArray,List.set_cons_zero,List.set_cons_succ,Nat.reduceAdd];rfl
      case refine_2=>
       refine SC 0 1 rfl ?_ (SC 1 2 rfl ?_ (SC 2 3 rfl ?_ (SC 3 4 rfl ?_ (SC 4 5 rfl ?_ (SC 5 6 rfl ?_ (SC 6 7 rfl ?_ (SC 7 8 rfl ?_ (SC 8 9 rfl ?_ (SC 9 10 rfl ?_ (SC 10 11 rfl ?_ (SC 11 12 rfl ?_ (SC 12 13 rfl ?_ (SC 13 14 rfl ?_ (SC 14 15 rfl ?_ (SC 15 16 rfl ?_ (SC 16 17 rfl ?_ (SC 17 18 rfl ?_ (SC 18 19 rfl ?_ (SC 19 20 rfl ?_ (SC 20 21 rfl ?_ (SC 21 22 rfl ?_ (SC 22 23 rfl ?_ (SC 23 24 rfl ?_ (SC 24 25 rfl ?_ (SC 25 26 rfl ?_ (SC 26 27 rfl ?_ (SC 27 28 rfl ?_ (SC 28 29 rfl ?_ (SC 29 30 rfl ?_ (SC 30 31 rfl ?_ (SC 31 32 rfl ?_ (SC 32 33 rfl ?_ (SC 33 34 rfl ?_ (SC 34 35 rfl ?_ (SC 35 36 rfl ?_ (SC 36 37 rfl ?_ (SC 37 38 rfl ?_ Steps.nil)))))))))))))))))))))))))))))))))))));all_goals (intro L s w9 hN hU hi hS K hK;dsimp only at hK⊢;simp only[Act.put,List.setIfInBounds_toArray,List.set_cons_zero,List.set_cons_succ]at hK)
       ·go_simp;exact hK.out _ _ (hS.v0 rfl rfl rfl)
       ·have e0:=hS.fx 0 rfl rfl (hN.out 0 rfl);simp only[e0]at hK⊢;obtain ⟨u1,u2,u3,u4,u5,u6,u7,u8⟩:=Blk.eight (hS.mem.k (i:=0) rfl);go_simp;exact hK.out _ _ (hS.v0 rfl rfl rfl)
       ·have e1:=hS.fx 1 rfl rfl (hN.out 1 rfl);simp only[e1]at hK⊢;go_simp;go_at_call 106;refine (HT.out _).mono ?_;rintro e9 w10 ⟨rfl,q⟩;exact hK.out _ _ (hS.val rfl (noStore_of rfl) q rfl)
       ·have e2:=hS.fx 2 rfl rfl (hN.out 2 rfl);simp only[e2]at hK⊢;have z1:=hz1.out;go_simp;exact hK.out _ _ (hS.v0 rfl rfl rfl)
       ·go_simp;exact hK.out _ _ (hS.v0 rfl rfl rfl)
       ·have e4:=hS.fx 4 rfl rfl (hN.out 4 rfl);simp only[e4]at hK⊢;obtain ⟨u1,u2,u3,u4,u5,u6,u7,u8⟩:=Blk.eight (hS.mem.k (i:=0) rfl);go_simp;exact hK.out _ _ (hS.v0 rfl rfl rfl)
       ·have e3:=hS.fx 3 rfl rfl (hN.out 3 rfl);simp only[e3]at hK⊢;have e5:=hS.fx 5 rfl rfl (hN.out 5 rfl);simp only[e5]at hK⊢;have z1:=hz2.out;go_simp;exact hK.out _ _ (hS.v0 rfl rfl rfl)
       ·have e6:=hS.fx 6 rfl rfl (hN.out 6 rfl);simp only[e6]at hK⊢;have z1:=hz3.out;go_simp;exact hK.out _ _ (hS.v0 rfl rfl rfl)
       ·go_simp;exact hK.out _ _ (hS.v0 rfl rfl rfl)
       ·have e7:=hS.fx 7 rfl rfl (hN.out 7 rfl);simp only[e7]at hK⊢;have e8:=hS.fx 8 rfl rfl (hN.out 8 rfl);simp only[e8]at hK⊢;have z1:=hz4.out;go_simp;exact hK.out _ _ (hS.v0 rfl rfl rfl)
       ·have e9:=hS.fx 9 rfl rfl (hN.out 9 rfl);simp only[e9]at hK⊢;have z1:=hz5.out;go_simp;exact hK.out _ _ (hS.v0 rfl rfl rfl)
       ·go_simp;exact hK.out _ _ (hS.v0 rfl rfl rfl)
       ·have e11:=hS.fx 11 rfl rfl (hN.out 11 rfl);simp only[e11]at hK⊢;go_simp;exact hK.out _ _ (hS.v0 rfl rfl rfl)
       ·have e12:=hS.fx 12 rfl rfl (hN.out 12 rfl);simp only[e12]at hK⊢;go_simp;exact hK.out _ _ (hS.v0 rfl rfl rfl)
       ·have e13:=hS.fx 13 rfl rfl (hN.out 13 rfl);simp only[e13]at hK⊢;have e12:=hS.fx 12 rfl rfl (hN.out 12 rfl);simp only[e12]at hK⊢;obtain ⟨u1,u2,u3,u4,u5,u6,u7,u8⟩:=Blk.eight (hS.mem.k (i:=0) rfl);go_simp;exact hK.out _ _ (hS.v0 rfl rfl rfl)
       ·have e14:=hS.fx 14 rfl rfl (hN.out 14 rfl);simp only[e14]at hK⊢;have e12:=hS.fx 12 rfl rfl (hN.out 12 rfl);simp only[e12]at hK⊢;go_simp;exact hK.out _ _ (hS.v0 rfl rfl rfl)
       ·have e15:=hS.fx 15 rfl rfl (hN.out 15 rfl);simp only[e15]at hK⊢;have e12:=hS.fx 12 rfl rfl (hN.out 12 rfl);simp only[e12]at hK⊢;go_simp;exact hK.out _ _ (hS.v0 rfl rfl rfl)
       ·have e12:=hS.fx 12 rfl rfl (hN.out 12 rfl);simp only[e12]at hK⊢;have e16:=hS.fx 16 rfl rfl (hN.out 16 rfl);simp only[e16]at hK⊢;go_simp;exact hK.out _ _ (hS.v0 rfl rfl rfl)
       ·have e17:=hS.fx 17 rfl rfl (hN.out 17 rfl);simp only[e17]at hK⊢;go_simp;exact hK.out _ _ (hS.v0 rfl rfl rfl)
       ·have e18:=hS.fx 18 rfl rfl (hN.out 18 rfl);simp only[e18]at hK⊢;go_simp;exact hK.out _ _ (hS.v0 rfl rfl rfl)
       ·have e19:=hS.fx 19 rfl rfl (hN.out 19 rfl);simp only[e19]at hK⊢;have e18:=hS.fx 18 rfl rfl (hN.out 18 rfl);simp only[e18]at hK⊢;obtain ⟨u1,u2,u3,u4,u5,u6,u7,u8⟩:=Blk.eight (hS.mem.k (i:=0) rfl);go_simp;exact hK.out _ _ (hS.v0 rfl rfl rfl)
       ·have e20:=hS.fx 20 rfl rfl (hN.out 20 rfl);simp only[e20]at hK⊢;have e18:=hS.fx 18 rfl rfl (hN.out 18 rfl);simp only[e18]at hK⊢;go_simp;exact hK.out _ _ (hS.v0 rfl rfl rfl)
       ·have e21:=hS.fx 21 rfl rfl (hN.out 21 rfl);simp only[e21]at hK⊢;have e18:=hS.fx 18 rfl rfl (hN.out 18 rfl);simp only[e18]at hK⊢;go_simp;exact hK.out _ _ (hS.v0 rfl rfl rfl)
       ·have e22:=hS.fx 22 rfl rfl (hN.out 22 rfl);simp only[e22]at hK⊢;have e18:=hS.fx 18 rfl rfl (hN.out 18 rfl);simp only[e18]at hK⊢;have z1:=(hS.mem.bel.cell (p:=⟨vb,vo,none⟩) hv3).trans hv4.out;go_simp;exact hK.out _ _ (hS.v0 rfl rfl rfl)
       ·have e18:=hS.fx 18 rfl rfl (hN.out 18 rfl);simp only[e18]at hK⊢;go_simp;exact hK.out _ _ (hS.v0 rfl rfl rfl)
       ·have e23:=hS.fx 23 rfl rfl (hN.out 23 rfl);simp only[e23]at hK⊢;have e24:=hS.fx 24 rfl rfl (hN.out 24 rfl);simp only[e24]at hK⊢;have e18:=hS.fx 18 rfl rfl (hN.out 18 rfl);simp only[e18]at hK⊢;have z1:=hv5;go_simp;exact hK.out _ _ (hS.v0 rfl rfl rfl)
       ·have e18:=hS.fx 18 rfl rfl (hN.out 18 rfl);simp only[e18]at hK⊢;have e25:=hS.fx 25 rfl rfl (hN.out 25 rfl);simp only[e25]at hK⊢;go_simp;exact hK.out _ _ (hS.v0 rfl rfl rfl)
       ·have e26:=hS.fx 26 rfl rfl (hN.out 26 rfl);simp only[e26]at hK⊢;go_simp;exact hK.out _ _ (hS.v0 rfl rfl rfl)
       ·have e27:=hS.fx 27 rfl rfl (hN.out 27 rfl);simp only[e27]at hK⊢;obtain ⟨u1,u2,u3,u4,u5,u6,u7,u8⟩:=Blk.eight (hS.mem.k (i:=0) rfl);go_simp;exact hK.out _ _ (hS.v0 rfl rfl rfl)
       ·have e28:=hS.fx 28 rfl rfl (hN.out 28 rfl);simp only[e28]at hK⊢;have e27:=hS.fx 27 rfl rfl (hN.out 27 rfl);simp only[e27]at hK⊢;go_simp;go_at_call 107;refine (HB.out _).mono ?_;rintro e9 w10 ⟨rfl,q⟩;exact hK.out _ _ (hS.val rfl (noStore_of rfl) q rfl)
       ·have e27:=hS.fx 27 rfl rfl (hN.out 27 rfl);simp only[e27]at hK⊢;have e29:=hS.fx 29 rfl rfl (hN.out 29 rfl);simp only[e29]at hK⊢;go_simp;exact hK.out _ _ (hS.v0 rfl rfl rfl)
       ·have e30:=hS.fx 30 rfl rfl (hN.out 30 rfl);simp only[e30]at hK⊢;go_simp;exact hK.out _ _ (hS.v0 rfl rfl rfl)
       ·have e31:=hS.fx 31 rfl rfl (hN.out 31 rfl);simp only[e31]at hK⊢;go_simp;exact hK.out _ _ (hS.v0 rfl rfl rfl)
       ·have e32:=hS.fx 32 rfl rfl (hN.out 32 rfl);simp only[e32]at hK⊢;have e31:=hS.fx 31 rfl rfl (hN.out 31 rfl);simp only[e31]at hK⊢;obtain ⟨u1,u2,u3,u4,u5,u6,u7,u8⟩:=Blk.eight (hS.mem.k (i:=0) rfl);go_simp;exact hK.out _ _ (hS.v0 rfl rfl rfl)
       ·have e33:=hS.fx 33 rfl rfl (hN.out 33 rfl);simp only[e33]at hK⊢;have e31:=hS.fx 31 rfl rfl (hN.out 31 rfl);simp only[e31]at hK⊢;go_simp;go_at_call 108;refine (HN.out _ (hE.below hS.mem.bel)).mono ?_;rintro e9 w10 ⟨rfl,q⟩;exact hK.out _ _ (hS.val rfl (noStore_of rfl) q rfl)
       ·have e31:=hS.fx 31 rfl rfl (hN.out 31 rfl);simp only[e31]at hK⊢;have e34:=hS.fx 34 rfl rfl (hN.out 34 rfl);simp only[e34]at hK⊢;go_simp;exact hK.out _ _ (hS.v0 rfl rfl rfl)
       ·have e10:=hS.fx 10 rfl rfl (hN.out 10 rfl);simp only[e10]at hK⊢;go_simp;exact hK.out _ _ (hS.v0 rfl rfl rfl)
       ·have e35:=hS.fx 35 rfl rfl (hN.out 35 rfl);simp only[e35]at hK⊢;go_simp;exact hK.out _ _ (hS.v0 rfl rfl rfl)
      intro L s w9 hall hS;have eS:s 36= .string (T++⟨#[58,32]⟩++N++⟨#[32,61,32]⟩++S++⟨#[59]⟩):=hS.val_at 36 rfl (by decide) (hall 36 (by decide));have eB:s 37= .bool nb:=hS.val_at 37 rfl (by decide) (hall 37 (by decide));go_wp2;refine bodyPost_ret (v:= .tuple #[.string (T++⟨#[58,32]⟩++N++⟨#[32,61,32]⟩++S++⟨#[59]⟩),.bool nb]) (by simp[results,Tryz.results73,go_sem,eS,eB]) rfl ⟨?_,hS.mem.bel⟩;rw[HX.out,HF.out,HV5.out];rfl
     |false=>
      refine region_st (n:=38) (frame:= ?frame3) (fun jK=>[.val (.fix (.pointer (some ⟨w.heap.size,2,none⟩))),.val (.fix (.bool b)),.val (.fix (.string T)),.val (.fix (.string (T++⟨#[58,32]⟩))),.val (.fix (.pointer (some ⟨w.heap.size,1,none⟩))),.val (.fix (.string N)),.val (.fix (.string (T++⟨#[58,32]⟩++N))),.val (.fix (.string (T++⟨#[58,32]⟩++N++⟨#[32,61,32]⟩))),.val (.fix (.string S)),.val (.fix (.string (T++⟨#[58,32]⟩++N++⟨#[32,61,32]⟩++S))),.val (.fix (.string (T++⟨#[58,32]⟩++N++⟨#[32,61,32]⟩++S++⟨#[59]⟩))),.val (.fix (.bool true)),.val (.fix (.bool true)),.val (.fix (.pointer (some ⟨w.heap.size,6,none⟩))),.val (.fix (.slice (some ⟨vb,vo,none⟩) 1 n6)),.val (.fix (.int .i64 1)),.val (.fix (.bool true)),.val (.fix (.bool true)),.val (.fix (.bool true)),.val (.fix (.pointer (some ⟨w.heap.size,6,none⟩))),.val (.fix (.slice (some ⟨vb,vo,none⟩) 1 n6)),.val (.fix (.pointer (some ⟨vb,vo,none⟩))),.val (.fix (.pointer (some ⟨vb,vo,none⟩))),.val (.fix (.int .i64 vk)),.val (.fix (.int .i64 want)),.val (.fix (.bool true)),.val (.fix (.bool true)),.val (.fix (.bool true)),.val (.fix (.agg #[.int .i64 k,.string N,.bool b,.slice A3 dm.length n3,.int .i64 sz,.bool o,.slice (some ⟨vb,vo,none⟩) 1 n6,.int .i64 ak])),.val (.fix (.bool false)),.val (.fix (.bool false)),.val (.fix (.bool false)),.none,.none,.none,.val (.fix (.bool false)),.val (.fix (.string (T++⟨#[58,32]⟩++N++⟨#[32,61,32]⟩++S++⟨#[59]⟩))),.val (.fix (.bool false))].getD jK .none) [] (by kernel_rfl) (by kernel_rfl) (by kernel_rfl) rfl M (fun _ h=>by cases h) (fun _ h=>by cases h) ?_ ?_ ?_
      case refine_1=>
       intro s;simp only[fr,Act.put,List.append_eq,List.cons_append,List.nil_append,List.setIfInBounds_toArray,List.set_cons_zero,List.set_cons_succ,Nat.reduceAdd];rfl
      case refine_2=>
       refine SC 0 1 rfl ?_ (SC 1 2 rfl ?_ (SC 2 3 rfl ?_ (SC 3 4 rfl ?_ (SC 4 5 rfl ?_ (SC 5 6 rfl ?_ (SC 6 7 rfl ?_ (SC 7 8 rfl ?_ (SC 8 9 rfl ?_ (SC 9 10 rfl ?_ (SC 10 11 rfl ?_ (SC 11 12 rfl ?_ (SC 12 13 rfl ?_ (SC 13 14 rfl ?_ (SC 14 15 rfl ?_ (SC 15 16 rfl ?_ (SC 16 17 rfl ?_ (SC 17 18 rfl ?_ (SC 18 19 rfl ?_ (SC 19 20 rfl ?_ (SC 20 21 rfl ?_ (SC 21 22 rfl ?_ (SC 22 23 rfl ?_ (SC 23 24 rfl ?_ (SC 24 25 rfl ?_ (SC 25 26 rfl ?_ (SC 26 27 rfl ?_ (SC 27 28 rfl ?_ (SC 28 29 rfl ?_ (SC 29 30 rfl ?_ (SC 30 31 rfl ?_ (SC 31 32 rfl ?_ (SC 32 33 rfl ?_ (SC 33 34 rfl ?_ (SC 34 35 rfl ?_ (SC 35 36 rfl ?_ (SC 36 37 rfl ?_ (SC 37 38 rfl ?_ Steps.nil)))))))))))))))))))))))))))))))))))));all_goals (intro L s w9 hN hU hi hS K hK;dsimp only at hK⊢;simp only[Act.put,List.setIfInBounds_toArray,List.set_cons_zero,List.set_cons_succ]at hK)
       ·go_simp;exact hK.out _ _ (hS.v0 rfl rfl rfl)
       ·have e0:=hS.fx 0 rfl rfl (hN.out 0 rfl);simp only[e0]at hK⊢;obtain ⟨u1,u2,u3,u4,u5,u6,u7,u8⟩:=Blk.eight (hS.mem.k (i:=0) rfl);go_simp;exact hK.out _ _ (hS.v0 rfl rfl rfl)
       ·have e1:=hS.fx 1 rfl rfl (hN.out 1 rfl);simp only[e1]at hK⊢;go_simp;go_at_call 106;refine (HT.out _).mono ?_;rintro e9 w10 ⟨rfl,q⟩;exact hK.out _ _ (hS.val rfl (noStore_of rfl) q rfl)
       ·have e2:=hS.fx 2 rfl rfl (hN.out 2 rfl);simp only[e2]at hK⊢;have z1:=hz1.out;go_simp;exact hK.out _ _ (hS.v0 rfl rfl rfl)
       ·go_simp;exact hK.out _ _ (hS.v0 rfl rfl rfl)
       ·have e4:=hS.fx 4 rfl rfl (hN.out 4 rfl);simp only[e4]at hK⊢;obtain ⟨u1,u2,u3,u4,u5,u6,u7,u8⟩:=Blk.eight (hS.mem.k (i:=0) rfl);go_simp;exact hK.out _ _ (hS.v0 rfl rfl rfl)
       ·have e3:=hS.fx 3 rfl rfl (hN.out 3 rfl);simp only[e3]at hK⊢;have e5:=hS.fx 5 rfl rfl (hN.out 5 rfl);simp only[e5]at hK⊢;have z1:=hz2.out;go_simp;exact hK.out _ _ (hS.v0 rfl rfl rfl)
       ·have e6:=hS.fx 6 rfl rfl (hN.out 6 rfl);simp only[e6]at hK⊢;have z1:=hz3.out;go_simp;exact hK.out _ _ (hS.v0 rfl rfl rfl)
       ·go_simp;exact hK.out _ _ (hS.v0 rfl rfl rfl)
       ·have e7:=hS.fx 7 rfl rfl (hN.out 7 rfl);simp only[e7]at hK⊢;have e8:=hS.fx 8 rfl rfl (hN.out 8 rfl);simp only[e8]at hK⊢;have z1:=hz4.out;go_simp;exact hK.out _ _ (hS.v0 rfl rfl rfl)
       ·have e9:=hS.fx 9 rfl rfl (hN.out 9 rfl);simp only[e9]at hK⊢;have z1:=hz5.out;go_simp;exact hK.out _ _ (hS.v0 rfl rfl rfl)
       ·go_simp;exact hK.out _ _ (hS.v0 rfl rfl rfl)
       ·have e11:=hS.fx 11 rfl rfl (hN.out 11 rfl);simp only[e11]at hK⊢;go_simp;exact hK.out _ _ (hS.v0 rfl rfl rfl)
       ·have e12:=hS.fx 12 rfl rfl (hN.out 12 rfl);simp only[e12]at hK⊢;go_simp;exact hK.out _ _ (hS.v0 rfl rfl rfl)
       ·have e13:=hS.fx 13 rfl rfl (hN.out 13 rfl);simp only[e13]at hK⊢;have e12:=hS.fx 12 rfl rfl (hN.out 12 rfl);simp only[e12]at hK⊢;obtain ⟨u1,u2,u3,u4,u5,u6,u7,u8⟩:=Blk.eight (hS.mem.k (i:=0) rfl);go_simp;exact hK.out _ _ (hS.v0 rfl rfl rfl)
       ·have e14:=hS.fx 14 rfl rfl (hN.out 14 rfl);simp only[e14]at hK⊢;have e12:=hS.fx 12 rfl rfl (hN.out 12 rfl);simp only[e12]at hK⊢;go_simp;exact hK.out _ _ (hS.v0 rfl rfl rfl)
       ·have e15:=hS.fx 15 rfl rfl (hN.out 15 rfl);simp only[e15]at hK⊢;have e12:=hS.fx 12 rfl rfl (hN.out 12 rfl);simp only[e12]at hK⊢;go_simp;exact hK.out _ _ (hS.v0 rfl rfl rfl)
       ·have e12:=hS.fx 12 rfl rfl (hN.out 12 rfl);simp only[e12]at hK⊢;have e16:=hS.fx 16 rfl rfl (hN.out 16 rfl);simp only[e16]at hK⊢;go_simp;exact hK.out _ _ (hS.v0 rfl rfl rfl)
       ·have e17:=hS.fx 17 rfl rfl (hN.out 17 rfl);simp only[e17]at hK⊢;go_simp;exact hK.out _ _ (hS.v0 rfl rfl rfl)
       ·have e18:=hS.fx 18 rfl rfl (hN.out 18 rfl);simp only[e18]at hK⊢;go_simp;exact hK.out _ _ (hS.v0 rfl rfl rfl)
       ·have e19:=hS.fx 19 rfl rfl (hN.out 19 rfl);simp only[e19]at hK⊢;have e18:=hS.fx 18 rfl rfl (hN.out 18 rfl);simp only[e18]at hK⊢;obtain ⟨u1,u2,u3,u4,u5,u6,u7,u8⟩:=Blk.eight (hS.mem.k (i:=0) rfl);go_simp;exact hK.out _ _ (hS.v0 rfl rfl rfl)
       ·have e20:=hS.fx 20 rfl rfl (hN.out 20 rfl);simp only[e20]at hK⊢;have e18:=hS.fx 18 rfl rfl (hN.out 18 rfl);simp only[e18]at hK⊢;go_simp;exact hK.out _ _ (hS.v0 rfl rfl rfl)
       ·have e21:=hS.fx 21 rfl rfl (hN.out 21 rfl);simp only[e21]at hK⊢;have e18:=hS.fx 18 rfl rfl (hN.out 18 rfl);simp only[e18]at hK⊢;go_simp;exact hK.out _ _ (hS.v0 rfl rfl rfl)
       ·have e22:=hS.fx 22 rfl rfl (hN.out 22 rfl);simp only[e22]at hK⊢;have e18:=hS.fx 18 rfl rfl (hN.out 18 rfl);simp only[e18]at hK⊢;have z1:=(hS.mem.bel.cell (p:=⟨vb,vo,none⟩) hv3).trans hv4.out;go_simp;exact hK.out _ _ (hS.v0 rfl rfl rfl)
       ·have e18:=hS.fx 18 rfl rfl (hN.out 18 rfl);simp only[e18]at hK⊢;go_simp;exact hK.out _ _ (hS.v0 rfl rfl rfl)
       ·have e23:=hS.fx 23 rfl rfl (hN.out 23 rfl);simp only[e23]at hK⊢;have e24:=hS.fx 24 rfl rfl (hN.out 24 rfl);simp only[e24]at hK⊢;have e18:=hS.fx 18 rfl rfl (hN.out 18 rfl);simp only[e18]at hK⊢;have z1:=hv5;go_simp;exact hK.out _ _ (hS.v0 rfl rfl rfl)
       ·have e18:=hS.fx 18 rfl rfl (hN.out 18 rfl);simp only[e18]at hK⊢;have e25:=hS.fx 25 rfl rfl (hN.out 25 rfl);simp only[e25]at hK⊢;go_simp;exact hK.out _ _ (hS.v0 rfl rfl rfl)
       ·have e26:=hS.fx 26 rfl rfl (hN.out 26 rfl);simp only[e26]at hK⊢;go_simp;exact hK.out _ _ (hS.v0 rfl rfl rfl)
       ·have e27:=hS.fx 27 rfl rfl (hN.out 27 rfl);simp only[e27]at hK⊢;obtain ⟨u1,u2,u3,u4,u5,u6,u7,u8⟩:=Blk.eight (hS.mem.k (i:=0) rfl);go_simp;exact hK.out _ _ (hS.v0 rfl rfl rfl)
       ·have e28:=hS.fx 28 rfl rfl (hN.out 28 rfl);simp only[e28]at hK⊢;have e27:=hS.fx 27 rfl rfl (hN.out 27 rfl);simp only[e27]at hK⊢;go_simp;go_at_call 107;refine (HB.out _).mono ?_;rintro e9 w10 ⟨rfl,q⟩;exact hK.out _ _ (hS.val rfl (noStore_of rfl) q rfl)
       ·have e27:=hS.fx 27 rfl rfl (hN.out 27 rfl);simp only[e27]at hK⊢;have e29:=hS.fx 29 rfl rfl (hN.out 29 rfl);simp only[e29]at hK⊢;go_simp;exact hK.out _ _ (hS.v0 rfl rfl rfl)
       ·have e30:=hS.fx 30 rfl rfl (hN.out 30 rfl);simp only[e30]at hK⊢;go_simp;exact hK.out _ _ (hS.v0 rfl rfl rfl)
       ·have e31:=hS.fx 31 rfl rfl (hN.out 31 rfl);simp only[e31]at hK⊢;go_simp;exact hK.out undef _ (hS.k0 rfl rfl)
       ·have e31:=hS.fx 31 rfl rfl (hN.out 31 rfl);simp only[e31]at hK⊢;go_simp;exact hK.out undef _ (hS.k0 rfl rfl)
       ·have e31:=hS.fx 31 rfl rfl (hN.out 31 rfl);simp only[e31]at hK⊢;go_simp;exact hK.out undef _ (hS.k0 rfl rfl)
       ·have e31:=hS.fx 31 rfl rfl (hN.out 31 rfl);simp only[e31]at hK⊢;go_simp;exact hK.out _ _ (hS.v0 rfl rfl rfl)
       ·have e10:=hS.fx 10 rfl rfl (hN.out 10 rfl);simp only[e10]at hK⊢;go_simp;exact hK.out _ _ (hS.v0 rfl rfl rfl)
       ·have e35:=hS.fx 35 rfl rfl (hN.out 35 rfl);simp only[e35]at hK⊢;go_simp;exact hK.out _ _ (hS.v0 rfl rfl rfl)
      intro L s w9 hall hS;have eS:s 36= .string (T++⟨#[58,32]⟩++N++⟨#[32,61,32]⟩++S++⟨#[59]⟩):=hS.val_at 36 rfl (by decide) (hall 36 (by decide));have eB:s 37= .bool false:=hS.val_at 37 rfl (by decide) (hall 37 (by decide));go_wp2;refine bodyPost_ret (v:= .tuple #[.string (T++⟨#[58,32]⟩++N++⟨#[32,61,32]⟩++S++⟨#[59]⟩),.bool false]) (by simp[results,Tryz.results73,go_sem,eS,eB]) rfl ⟨?_,hS.mem.bel⟩;rw[HX.out,HF.out,HV5.out];rfl
    ·have hv5:(vk==want)=false:=by simp[hv]
     have HV5:=Lib.hid hv5;clear hv;refine region_st (n:=38) (frame:= ?frame4) (fun jK=>[.val (.fix (.pointer (some ⟨w.heap.size,2,none⟩))),.val (.fix (.bool b)),.val (.fix (.string T)),.val (.fix (.string (T++⟨#[58,32]⟩))),.val (.fix (.pointer (some ⟨w.heap.size,1,none⟩))),.val (.fix (.string N)),.val (.fix (.string (T++⟨#[58,32]⟩++N))),.val (.fix (.string (T++⟨#[58,32]⟩++N++⟨#[32,61,32]⟩))),.val (.fix (.string S)),.val (.fix (.string (T++⟨#[58,32]⟩++N++⟨#[32,61,32]⟩++S))),.val (.fix (.string (T++⟨#[58,32]⟩++N++⟨#[32,61,32]⟩++S++⟨#[59]⟩))),.val (.fix (.bool true)),.val (.fix (.bool true)),.val (.fix (.pointer (some ⟨w.heap.size,6,none⟩))),.val (.fix (.slice (some ⟨vb,vo,none⟩) 1 n6)),.val (.fix (.int .i64 1)),.val (.fix (.bool true)),.val (.fix (.bool true)),.val (.fix (.bool true)),.val (.fix (.pointer (some ⟨w.heap.size,6,none⟩))),.val (.fix (.slice (some ⟨vb,vo,none⟩) 1 n6)),.val (.fix (.pointer (some ⟨vb,vo,none⟩))),.val (.fix (.pointer (some ⟨vb,vo,none⟩))),.val (.fix (.int .i64 vk)),.val (.fix (.int .i64 want)),.val (.fix (.bool false)),.val (.fix (.bool false)),.val (.fix (.bool false)),.none,.none,.val (.fix (.bool false)),.val (.fix (.bool false)),.none,.none,.none,.val (.fix (.bool false)),.val (.fix (.string (T++⟨#[58,32]⟩++N++⟨#[32,61,32]⟩++S++⟨#[59]⟩))),.val (.fix (.bool false))].getD jK .none) [] (by kernel_rfl) (by kernel_rfl) (by kernel_rfl) rfl M (fun _ h=>by cases h) (fun _ h=>by cases h) ?_ ?_ ?_
     case refine_1=>
      intro s;simp only[fr,Act.put,List.append_eq,List.cons_append,List.nil_append,List.setIfInBounds_toArray,List.set_cons_zero,List.set_cons_succ,Nat.reduceAdd];rfl
     case refine_2=>
      refine SC 0 1 rfl ?_ (SC 1 2 rfl ?_ (SC 2 3 rfl ?_ (SC 3 4 rfl ?_ (SC 4 5 rfl ?_ (SC 5 6 rfl ?_ (SC 6 7 rfl ?_ (SC 7 8 rfl ?_ (SC 8 9 rfl ?_ (SC 9 10 rfl ?_ (SC 10 11 rfl ?_ (SC 11 12 rfl ?_ (SC 12 13 rfl ?_ (SC 13 14 rfl ?_ (SC 14 15 rfl ?_ (SC 15 16 rfl ?_ (SC 16 17 rfl ?_ (SC 17 18 rfl ?_ (SC 18 19 rfl ?_ (SC 19 20 rfl ?_ (SC 20 21 rfl ?_ (SC 21 22 rfl ?_ (SC 22 23 rfl ?_ (SC 23 24 rfl ?_ (SC 24 25 rfl ?_ (SC 25 26 rfl ?_ (SC 26 27 rfl ?_ (SC 27 28 rfl ?_ (SC 28 29 rfl ?_ (SC 29 30 rfl ?_ (SC 30 31 rfl ?_ (SC 31 32 rfl ?_ (SC 32 33 rfl ?_ (SC 33 34 rfl ?_ (SC 34 35 rfl ?_ (SC 35 36 rfl ?_ (SC 36 37 rfl ?_ (SC 37 38 rfl ?_ Steps.nil)))))))))))))))))))))))))))))))))))));all_goals (intro L s w9 hN hU hi hS K hK;dsimp only at hK⊢;simp only[Act.put,List.setIfInBounds_toArray,List.set_cons_zero,List.set_cons_succ]at hK)
      ·go_simp;exact hK.out _ _ (hS.v0 rfl rfl rfl)
      ·have e0:=hS.fx 0 rfl rfl (hN.out 0 rfl);simp only[e0]at hK⊢;obtain ⟨u1,u2,u3,u4,u5,u6,u7,u8⟩:=Blk.eight (hS.mem.k (i:=0) rfl);go_simp;exact hK.out _ _ (hS.v0 rfl rfl rfl)
      ·have e1:=hS.fx 1 rfl rfl (hN.out 1 rfl);simp only[e1]at hK⊢;go_simp;go_at_call 106;refine (HT.out _).mono ?_;rintro e9 w10 ⟨rfl,q⟩;exact hK.out _ _ (hS.val rfl (noStore_of rfl) q rfl)
      ·have e2:=hS.fx 2 rfl rfl (hN.out 2 rfl);simp only[e2]at hK⊢;have z1:=hz1.out;go_simp;exact hK.out _ _ (hS.v0 rfl rfl rfl)
      ·go_simp;exact hK.out _ _ (hS.v0 rfl rfl rfl)
      ·have e4:=hS.fx 4 rfl rfl (hN.out 4 rfl);simp only[e4]at hK⊢;obtain ⟨u1,u2,u3,u4,u5,u6,u7,u8⟩:=Blk.eight (hS.mem.k (i:=0) rfl);go_simp;exact hK.out _ _ (hS.v0 rfl rfl rfl)
      ·have e3:=hS.fx 3 rfl rfl (hN.out 3 rfl);simp only[e3]at hK⊢;have e5:=hS.fx 5 rfl rfl (hN.out 5 rfl);simp only[e5]at hK⊢;have z1:=hz2.out;go_simp;exact hK.out _ _ (hS.v0 rfl rfl rfl)
      ·have e6:=hS.fx 6 rfl rfl (hN.out 6 rfl);simp only[e6]at hK⊢;have z1:=hz3.out;go_simp;exact hK.out _ _ (hS.v0 rfl rfl rfl)
      ·go_simp;exact hK.out _ _ (hS.v0 rfl rfl rfl)
      ·have e7:=hS.fx 7 rfl rfl (hN.out 7 rfl);simp only[e7]at hK⊢;have e8:=hS.fx 8 rfl rfl (hN.out 8 rfl);simp only[e8]at hK⊢;have z1:=hz4.out;go_simp;exact hK.out _ _ (hS.v0 rfl rfl rfl)
      ·have e9:=hS.fx 9 rfl rfl (hN.out 9 rfl);simp only[e9]at hK⊢;have z1:=hz5.out;go_simp;exact hK.out _ _ (hS.v0 rfl rfl rfl)
      ·go_simp;exact hK.out _ _ (hS.v0 rfl rfl rfl)
      ·have e11:=hS.fx 11 rfl rfl (hN.out 11 rfl);simp only[e11]at hK⊢;go_simp;exact hK.out _ _ (hS.v0 rfl rfl rfl)
      ·have e12:=hS.fx 12 rfl rfl (hN.out 12 rfl);simp only[e12]at hK⊢;go_simp;exact hK.out _ _ (hS.v0 rfl rfl rfl)
      ·have e13:=hS.fx 13 rfl rfl (hN.out 13 rfl);simp only[e13]at hK⊢;have e12:=hS.fx 12 rfl rfl (hN.out 12 rfl);simp only[e12]at hK⊢;obtain ⟨u1,u2,u3,u4,u5,u6,u7,u8⟩:=Blk.eight (hS.mem.k (i:=0) rfl);go_simp;exact hK.out _ _ (hS.v0 rfl rfl rfl)
      ·have e14:=hS.fx 14 rfl rfl (hN.out 14 rfl);simp only[e14]at hK⊢;have e12:=hS.fx 12 rfl rfl (hN.out 12 rfl);simp only[e12]at hK⊢;go_simp;exact hK.out _ _ (hS.v0 rfl rfl rfl)
      ·have e15:=hS.fx 15 rfl rfl (hN.out 15 rfl);simp only[e15]at hK⊢;have e12:=hS.fx 12 rfl rfl (hN.out 12 rfl);simp only[e12]at hK⊢;go_simp;exact hK.out _ _ (hS.v0 rfl rfl rfl)
      ·have e12:=hS.fx 12 rfl rfl (hN.out 12 rfl);simp only[e12]at hK⊢;have e16:=hS.fx 16 rfl rfl (hN.out 16 rfl);simp only[e16]at hK⊢;go_simp;exact hK.out _ _ (hS.v0 rfl rfl rfl)
      ·have e17:=hS.fx 17 rfl rfl (hN.out 17 rfl);simp only[e17]at hK⊢;go_simp;exact hK.out _ _ (hS.v0 rfl rfl rfl)
      ·have e18:=hS.fx 18 rfl rfl (hN.out 18 rfl);simp only[e18]at hK⊢;go_simp;exact hK.out _ _ (hS.v0 rfl rfl rfl)
      ·have e19:=hS.fx 19 rfl rfl (hN.out 19 rfl);simp only[e19]at hK⊢;have e18:=hS.fx 18 rfl rfl (hN.out 18 rfl);simp only[e18]at hK⊢;obtain ⟨u1,u2,u3,u4,u5,u6,u7,u8⟩:=Blk.eight (hS.mem.k (i:=0) rfl);go_simp;exact hK.out _ _ (hS.v0 rfl rfl rfl)
      ·have e20:=hS.fx 20 rfl rfl (hN.out 20 rfl);simp only[e20]at hK⊢;have e18:=hS.fx 18 rfl rfl (hN.out 18 rfl);simp only[e18]at hK⊢;go_simp;exact hK.out _ _ (hS.v0 rfl rfl rfl)
      ·have e21:=hS.fx 21 rfl rfl (hN.out 21 rfl);simp only[e21]at hK⊢;have e18:=hS.fx 18 rfl rfl (hN.out 18 rfl);simp only[e18]at hK⊢;go_simp;exact hK.out _ _ (hS.v0 rfl rfl rfl)
      ·have e22:=hS.fx 22 rfl rfl (hN.out 22 rfl);simp only[e22]at hK⊢;have e18:=hS.fx 18 rfl rfl (hN.out 18 rfl);simp only[e18]at hK⊢;have z1:=(hS.mem.bel.cell (p:=⟨vb,vo,none⟩) hv3).trans hv4.out;go_simp;exact hK.out _ _ (hS.v0 rfl rfl rfl)
      ·have e18:=hS.fx 18 rfl rfl (hN.out 18 rfl);simp only[e18]at hK⊢;go_simp;exact hK.out _ _ (hS.v0 rfl rfl rfl)
      ·have e23:=hS.fx 23 rfl rfl (hN.out 23 rfl);simp only[e23]at hK⊢;have e24:=hS.fx 24 rfl rfl (hN.out 24 rfl);simp only[e24]at hK⊢;have e18:=hS.fx 18 rfl rfl (hN.out 18 rfl);simp only[e18]at hK⊢;have z1:=hv5;go_simp;exact hK.out _ _ (hS.v0 rfl rfl rfl)
      ·have e18:=hS.fx 18 rfl rfl (hN.out 18 rfl);simp only[e18]at hK⊢;have e25:=hS.fx 25 rfl rfl (hN.out 25 rfl);simp only[e25]at hK⊢;go_simp;exact hK.out _ _ (hS.v0 rfl rfl rfl)
      ·have e26:=hS.fx 26 rfl rfl (hN.out 26 rfl);simp only[e26]at hK⊢;go_simp;exact hK.out _ _ (hS.v0 rfl rfl rfl)
      ·have e27:=hS.fx 27 rfl rfl (hN.out 27 rfl);simp only[e27]at hK⊢;go_simp;exact hK.out undef _ (hS.k0 rfl rfl)
      ·have e27:=hS.fx 27 rfl rfl (hN.out 27 rfl);simp only[e27]at hK⊢;go_simp;exact hK.out undef _ (hS.k0 rfl rfl)
      ·have e27:=hS.fx 27 rfl rfl (hN.out 27 rfl);simp only[e27]at hK⊢;go_simp;exact hK.out _ _ (hS.v0 rfl rfl rfl)
      ·have e30:=hS.fx 30 rfl rfl (hN.out 30 rfl);simp only[e30]at hK⊢;go_simp;exact hK.out _ _ (hS.v0 rfl rfl rfl)
      ·have e31:=hS.fx 31 rfl rfl (hN.out 31 rfl);simp only[e31]at hK⊢;go_simp;exact hK.out undef _ (hS.k0 rfl rfl)
      ·have e31:=hS.fx 31 rfl rfl (hN.out 31 rfl);simp only[e31]at hK⊢;go_simp;exact hK.out undef _ (hS.k0 rfl rfl)
      ·have e31:=hS.fx 31 rfl rfl (hN.out 31 rfl);simp only[e31]at hK⊢;go_simp;exact hK.out undef _ (hS.k0 rfl rfl)
      ·have e31:=hS.fx 31 rfl rfl (hN.out 31 rfl);simp only[e31]at hK⊢;go_simp;exact hK.out _ _ (hS.v0 rfl rfl rfl)
      ·have e10:=hS.fx 10 rfl rfl (hN.out 10 rfl);simp only[e10]at hK⊢;go_simp;exact hK.out _ _ (hS.v0 rfl rfl rfl)
      ·have e35:=hS.fx 35 rfl rfl (hN.out 35 rfl);simp only[e35]at hK⊢;go_simp;exact hK.out _ _ (hS.v0 rfl rfl rfl)
     intro L s w9 hall hS;have eS:s 36= .string (T++⟨#[58,32]⟩++N++⟨#[32,61,32]⟩++S++⟨#[59]⟩):=hS.val_at 36 rfl (by decide) (hall 36 (by decide));have eB:s 37= .bool false:=hS.val_at 37 rfl (by decide) (hall 37 (by decide));go_wp2;refine bodyPost_ret (v:= .tuple #[.string (T++⟨#[58,32]⟩++N++⟨#[32,61,32]⟩++S++⟨#[59]⟩),.bool false]) (by simp[results,Tryz.results73,go_sem,eS,eB]) rfl ⟨?_,hS.mem.bel⟩;rw[HX.out,HF.out,HV5.out];rfl
   ·have hv1:((vs.length:Int)==1)=false:=by simp;omega
    have HL:=Lib.hid (show (vs.length==1)=false by simp[hl]);generalize vs.length=vn at*;refine region_st (n:=38) (frame:= ?frame5) (fun jK=>[.val (.fix (.pointer (some ⟨w.heap.size,2,none⟩))),.val (.fix (.bool b)),.val (.fix (.string T)),.val (.fix (.string (T++⟨#[58,32]⟩))),.val (.fix (.pointer (some ⟨w.heap.size,1,none⟩))),.val (.fix (.string N)),.val (.fix (.string (T++⟨#[58,32]⟩++N))),.val (.fix (.string (T++⟨#[58,32]⟩++N++⟨#[32,61,32]⟩))),.val (.fix (.string S)),.val (.fix (.string (T++⟨#[58,32]⟩++N++⟨#[32,61,32]⟩++S))),.val (.fix (.string (T++⟨#[58,32]⟩++N++⟨#[32,61,32]⟩++S++⟨#[59]⟩))),.val (.fix (.bool true)),.val (.fix (.bool true)),.val (.fix (.pointer (some ⟨w.heap.size,6,none⟩))),.val (.fix (.slice A6 vn n6)),.val (.fix (.int .i64 (vn:Int))),.val (.fix (.bool false)),.val (.fix (.bool false)),.val (.fix (.bool false)),.none,.none,.none,.none,.none,.none,.none,.val (.fix (.bool false)),.val (.fix (.bool false)),.none,.none,.val (.fix (.bool false)),.val (.fix (.bool false)),.none,.none,.none,.val (.fix (.bool false)),.val (.fix (.string (T++⟨#[58,32]⟩++N++⟨#[32,61,32]⟩++S++⟨#[59]⟩))),.val (.fix (.bool false))].getD jK .none) [] (by kernel_rfl) (by kernel_rfl) (by kernel_rfl) rfl M (fun _ h=>by cases h) (fun _ h=>by cases h) ?_ ?_ ?_
    case refine_1=>
     intro s;simp only[fr,Act.put,List.append_eq,List.cons_append,List.nil_append,List.setIfInBounds_toArray,List.set_cons_zero,List.set_cons_succ,Nat.reduceAdd];rfl
    case refine_2=>
     refine SC 0 1 rfl ?_ (SC 1 2 rfl ?_ (SC 2 3 rfl ?_ (SC 3 4 rfl ?_ (SC 4 5 rfl ?_ (SC 5 6 rfl ?_ (SC 6 7 rfl ?_ (SC 7 8 rfl ?_ (SC 8 9 rfl ?_ (SC 9 10 rfl ?_ (SC 10 11 rfl ?_ (SC 11 12 rfl ?_ (SC 12 13 rfl ?_ (SC 13 14 rfl ?_ (SC 14 15 rfl ?_ (SC 15 16 rfl ?_ (SC 16 17 rfl ?_ (SC 17 18 rfl ?_ (SC 18 19 rfl ?_ (SC 19 20 rfl ?_ (SC 20 21 rfl ?_ (SC 21 22 rfl ?_ (SC 22 23 rfl ?_ (SC 23 24 rfl ?_ (SC 24 25 rfl ?_ (SC 25 26 rfl ?_ (SC 26 27 rfl ?_ (SC 27 28 rfl ?_ (SC 28 29 rfl ?_ (SC 29 30 rfl ?_ (SC 30 31 rfl ?_ (SC 31 32 rfl ?_ (SC 32 33 rfl ?_ (SC 33 34 rfl ?_ (SC 34 35 rfl ?_ (SC 35 36 rfl ?_ (SC 36 37 rfl ?_ (SC 37 38 rfl ?_ Steps.nil)))))))))))))))))))))))))))))))))))));all_goals (intro L s w9 hN hU hi hS K hK;dsimp only at hK⊢;simp only[Act.put,List.setIfInBounds_toArray,List.set_cons_zero,List.set_cons_succ]at hK)
     ·go_simp;exact hK.out _ _ (hS.v0 rfl rfl rfl)
     ·have e0:=hS.fx 0 rfl rfl (hN.out 0 rfl);simp only[e0]at hK⊢;obtain ⟨u1,u2,u3,u4,u5,u6,u7,u8⟩:=Blk.eight (hS.mem.k (i:=0) rfl);go_simp;exact hK.out _ _ (hS.v0 rfl rfl rfl)
     ·have e1:=hS.fx 1 rfl rfl (hN.out 1 rfl);simp only[e1]at hK⊢;go_simp;go_at_call 106;refine (HT.out _).mono ?_;rintro e9 w10 ⟨rfl,q⟩;exact hK.out _ _ (hS.val rfl (noStore_of rfl) q rfl)
     ·have e2:=hS.fx 2 rfl rfl (hN.out 2 rfl);simp only[e2]at hK⊢;have z1:=hz1.out;go_simp;exact hK.out _ _ (hS.v0 rfl rfl rfl)
     ·go_simp;exact hK.out _ _ (hS.v0 rfl rfl rfl)
     ·have e4:=hS.fx 4 rfl rfl (hN.out 4 rfl);simp only[e4]at hK⊢;obtain ⟨u1,u2,u3,u4,u5,u6,u7,u8⟩:=Blk.eight (hS.mem.k (i:=0) rfl);go_simp;exact hK.out _ _ (hS.v0 rfl rfl rfl)
     ·have e3:=hS.fx 3 rfl rfl (hN.out 3 rfl);simp only[e3]at hK⊢;have e5:=hS.fx 5 rfl rfl (hN.out 5 rfl);simp only[e5]at hK⊢;have z1:=hz2.out;go_simp;exact hK.out _ _ (hS.v0 rfl rfl rfl)
     ·have e6:=hS.fx 6 rfl rfl (hN.out 6 rfl);simp only[e6]at hK⊢;have z1:=hz3.out;go_simp;exact hK.out _ _ (hS.v0 rfl rfl rfl)
     ·go_simp;exact hK.out _ _ (hS.v0 rfl rfl rfl)
     ·have e7:=hS.fx 7 rfl rfl (hN.out 7 rfl);simp only[e7]at hK⊢;have e8:=hS.fx 8 rfl rfl (hN.out 8 rfl);simp only[e8]at hK⊢;have z1:=hz4.out;go_simp;exact hK.out _ _ (hS.v0 rfl rfl rfl)
     ·have e9:=hS.fx 9 rfl rfl (hN.out 9 rfl);simp only[e9]at hK⊢;have z1:=hz5.out;go_simp;exact hK.out _ _ (hS.v0 rfl rfl rfl)
     ·go_simp;exact hK.out _ _ (hS.v0 rfl rfl rfl)
     ·have e11:=hS.fx 11 rfl rfl (hN.out 11 rfl);simp only[e11]at hK⊢;go_simp;exact hK.out _ _ (hS.v0 rfl rfl rfl)
     ·have e12:=hS.fx 12 rfl rfl (hN.out 12 rfl);simp only[e12]at hK⊢;go_simp;exact hK.out _ _ (hS.v0 rfl rfl rfl)
     ·have e13:=hS.fx 13 rfl rfl (hN.out 13 rfl);simp only[e13]at hK⊢;have e12:=hS.fx 12 rfl rfl (hN.out 12 rfl);simp only[e12]at hK⊢;obtain ⟨u1,u2,u3,u4,u5,u6,u7,u8⟩:=Blk.eight (hS.mem.k (i:=0) rfl);go_simp;exact hK.out _ _ (hS.v0 rfl rfl rfl)
     ·have e14:=hS.fx 14 rfl rfl (hN.out 14 rfl);simp only[e14]at hK⊢;have e12:=hS.fx 12 rfl rfl (hN.out 12 rfl);simp only[e12]at hK⊢;go_simp;exact hK.out _ _ (hS.v0 rfl rfl rfl)
     ·have e15:=hS.fx 15 rfl rfl (hN.out 15 rfl);simp only[e15]at hK⊢;have e12:=hS.fx 12 rfl rfl (hN.out 12 rfl);simp only[e12]at hK⊢;have z1:=hv1;go_simp;exact hK.out _ _ (hS.v0 rfl rfl rfl)
     ·have e12:=hS.fx 12 rfl rfl (hN.out 12 rfl);simp only[e12]at hK⊢;have e16:=hS.fx 16 rfl rfl (hN.out 16 rfl);simp only[e16]at hK⊢;go_simp;exact hK.out _ _ (hS.v0 rfl rfl rfl)
     ·have e17:=hS.fx 17 rfl rfl (hN.out 17 rfl);simp only[e17]at hK⊢;go_simp;exact hK.out _ _ (hS.v0 rfl rfl rfl)
     ·have e18:=hS.fx 18 rfl rfl (hN.out 18 rfl);simp only[e18]at hK⊢;go_simp;exact hK.out undef _ (hS.k0 rfl rfl)
     ·have e18:=hS.fx 18 rfl rfl (hN.out 18 rfl);simp only[e18]at hK⊢;go_simp;exact hK.out undef _ (hS.k0 rfl rfl)
     ·have e18:=hS.fx 18 rfl rfl (hN.out 18 rfl);simp only[e18]at hK⊢;go_simp;exact hK.out undef _ (hS.k0 rfl rfl)
     ·have e18:=hS.fx 18 rfl rfl (hN.out 18 rfl);simp only[e18]at hK⊢;go_simp;exact hK.out undef _ (hS.k0 rfl rfl)
     ·have e18:=hS.fx 18 rfl rfl (hN.out 18 rfl);simp only[e18]at hK⊢;go_simp;exact hK.out undef _ (hS.k0 rfl rfl)
     ·have e18:=hS.fx 18 rfl rfl (hN.out 18 rfl);simp only[e18]at hK⊢;go_simp;exact hK.out undef _ (hS.k0 rfl rfl)
     ·have e18:=hS.fx 18 rfl rfl (hN.out 18 rfl);simp only[e18]at hK⊢;go_simp;exact hK.out undef _ (hS.k0 rfl rfl)
     ·have e18:=hS.fx 18 rfl rfl (hN.out 18 rfl);simp only[e18]at hK⊢;go_simp;exact hK.out _ _ (hS.v0 rfl rfl rfl)
     ·have e26:=hS.fx 26 rfl rfl (hN.out 26 rfl);simp only[e26]at hK⊢;go_simp;exact hK.out _ _ (hS.v0 rfl rfl rfl)
     ·have e27:=hS.fx 27 rfl rfl (hN.out 27 rfl);simp only[e27]at hK⊢;go_simp;exact hK.out undef _ (hS.k0 rfl rfl)
     ·have e27:=hS.fx 27 rfl rfl (hN.out 27 rfl);simp only[e27]at hK⊢;go_simp;exact hK.out undef _ (hS.k0 rfl rfl)
     ·have e27:=hS.fx 27 rfl rfl (hN.out 27 rfl);simp only[e27]at hK⊢;go_simp;exact hK.out _ _ (hS.v0 rfl rfl rfl)
     ·have e30:=hS.fx 30 rfl rfl (hN.out 30 rfl);simp only[e30]at hK⊢;go_simp;exact hK.out _ _ (hS.v0 rfl rfl rfl)
     ·have e31:=hS.fx 31 rfl rfl (hN.out 31 rfl);simp only[e31]at hK⊢;go_simp;exact hK.out undef _ (hS.k0 rfl rfl)
     ·have e31:=hS.fx 31 rfl rfl (hN.out 31 rfl);simp only[e31]at hK⊢;go_simp;exact hK.out undef _ (hS.k0 rfl rfl)
     ·have e31:=hS.fx 31 rfl rfl (hN.out 31 rfl);simp only[e31]at hK⊢;go_simp;exact hK.out undef _ (hS.k0 rfl rfl)
     ·have e31:=hS.fx 31 rfl rfl (hN.out 31 rfl);simp only[e31]at hK⊢;go_simp;exact hK.out _ _ (hS.v0 rfl rfl rfl)
     ·have e10:=hS.fx 10 rfl rfl (hN.out 10 rfl);simp only[e10]at hK⊢;go_simp;exact hK.out _ _ (hS.v0 rfl rfl rfl)
     ·have e35:=hS.fx 35 rfl rfl (hN.out 35 rfl);simp only[e35]at hK⊢;go_simp;exact hK.out _ _ (hS.v0 rfl rfl rfl)
    intro L s w9 hall hS;have eS:s 36= .string (T++⟨#[58,32]⟩++N++⟨#[32,61,32]⟩++S++⟨#[59]⟩):=hS.val_at 36 rfl (by decide) (hall 36 (by decide));have eB:s 37= .bool false:=hS.val_at 37 rfl (by decide) (hall 37 (by decide));go_wp2;refine bodyPost_ret (v:= .tuple #[.string (T++⟨#[58,32]⟩++N++⟨#[32,61,32]⟩++S++⟨#[59]⟩),.bool false]) (by simp[results,Tryz.results73,go_sem,eS,eB]) rfl ⟨?_,hS.mem.bel⟩;rw[HX.out,HF.out,HL.out];rfl
end Go.Proofs.YtjlhjabgclflcaaGreatDoor

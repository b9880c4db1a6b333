import Derived.Test.YtpnmcacndjkfaaaGreatKj
set_option maxRecDepth 100000
set_option linter.unusedSimpArgs false
set_option linter.unusedVariables false
namespace Go.Proofs.YtpnmcacndjkfaaaGreat
open Go.RowKit Num
theorem cmpQ_lss (a b:Rat):decide (cmpQ a b<0)=decide (a<b):=by
 unfold cmpQ;by_cases h:a<b
 ·rw[if_pos h,decide_eq_true h];rfl
 ·rw[if_neg h,decide_eq_false h];split<;>rfl
theorem cmpQ_gtr (a b:Rat):decide (0<cmpQ a b)=decide (b<a):=by
 unfold cmpQ;by_cases h:a<b
 ·rw[if_pos h,decide_eq_false (fun h2=>absurd (Std.lt_trans h h2) Rat.lt_irrefl)];rfl
 ·rw[if_neg h];by_cases h2:b<a
  ·rw[if_pos h2,decide_eq_true h2];rfl
  ·rw[if_neg h2,decide_eq_false h2];rfl
theorem vbelow_any {w:World}{g:Nat}{x:Vr}(h:VAt w g x):Calls Tryz.prog 97 #[vptr g] w fun e w'=>e= .returned (.bool x.below)∧Below w.heap.size w w':=by
 have M:=Mem.start w;obtain⟨lo,hi,v⟩:=x;have hs:SideAt w g 0 lo:=h.lo;obtain⟨A,c,B,d,v1,v2,v3,v4,hq⟩:=h.v;have V1:=Lk.of v1;have V2:=Lk.of v2;have V3:=Lk.of v3;have V4:=Lk.of v4;have HQ:=ZH hq;clear h v1 v2 v3 v4 hq;cases lo with
 |none=>
  have S0:=Lk.of hs;clear hs;go_enter Tryz.func97,Tryz.ntmps97;go_upto_region 1 with fail;refine region_st (n:=19) (frame:= ?frame1) (fun jK=>[.val (.fix (.pointer (some ⟨g,0,none⟩))),.val (.fix (.pointer (some ⟨g,0,none⟩))),.val (.fix (.pointer (some ⟨g,0,none⟩))),.val (.fix (.pointer (some ⟨g,0,none⟩))),.val (.fix (.bool false)),.val (.fix (.bool false)),.none,.none,.none,.none,.none,.none,.none,.none,.none,.none,.none,.val (.fix (.bool false)),.val (.fix (.bool false))].getD jK .none) [] (by kernel_rfl) (by kernel_rfl) (by kernel_rfl) rfl M (fun _ h=>by cases h) (fun _ h=>by cases h) ?_ ?_ ?_
  case refine_1=>
   intro s;simp only[fr,Act.put,zA,zB,zC,zD,zE,zF,Nat.reduceAdd];rfl
  case refine_2=>
   refine SC 0 1 rfl ?_ (SC 1 2 rfl ?_ (SC 2 3 rfl ?_ (SC 3 4 rfl ?_ (SC 4 5 rfl ?_ (SC 5 6 rfl ?_ (SC 6 7 rfl ?_ (SC 7 8 rfl ?_ (SC 8 9 rfl ?_ (SC 9 10 rfl ?_ (SC 10 11 rfl ?_ (SC 11 12 rfl ?_ (SC 12 13 rfl ?_ (SC 13 14 rfl ?_ (SC 14 15 rfl ?_ (SC 15 16 rfl ?_ (SC 16 17 rfl ?_ (SC 17 18 rfl ?_ (SC 18 19 rfl ?_ Steps.nil))))))))))))))))));all_goals (intro L s w9 hN hU hi hS K hK;dsimp only at hK⊢;simp only[Act.put,zD,zE,zF]at hK)
   ·go_simp;exact hS.o hK
   ·have e0:=hS.f hN 0;simp only[e0]at hK⊢;go_simp;exact hS.o hK
   ·have e1:=hS.f hN 1;simp only[e1]at hK⊢;go_simp;exact hS.o hK
   ·have e2:=hS.f hN 2;simp only[e2]at hK⊢;go_simp;exact hS.o hK
   ·have e3:=hS.f hN 3;simp only[e3]at hK⊢;have u0:=S0 _ hS.mem.bel;go_simp;exact hS.o hK
   ·have e4:=hS.f hN 4;simp only[e4]at hK⊢;go_simp;exact hS.o hK
   ·have e5:=hS.f hN 5;simp only[e5]at hK⊢;go_simp;exact hS.u hK
   ·have e5:=hS.f hN 5;simp only[e5]at hK⊢;go_simp;exact hS.u hK
   ·have e5:=hS.f hN 5;simp only[e5]at hK⊢;go_simp;exact hS.u hK
   ·have e5:=hS.f hN 5;simp only[e5]at hK⊢;go_simp;exact hS.u hK
   ·have e5:=hS.f hN 5;simp only[e5]at hK⊢;go_simp;exact hS.u hK
   ·have e5:=hS.f hN 5;simp only[e5]at hK⊢;go_simp;exact hS.u hK
   ·have e5:=hS.f hN 5;simp only[e5]at hK⊢;go_simp;exact hS.u hK
   ·have e5:=hS.f hN 5;simp only[e5]at hK⊢;go_simp;exact hS.u hK
   ·have e5:=hS.f hN 5;simp only[e5]at hK⊢;go_simp;exact hS.u hK
   ·have e5:=hS.f hN 5;simp only[e5]at hK⊢;go_simp;exact hS.u hK
   ·have e5:=hS.f hN 5;simp only[e5]at hK⊢;go_simp;exact hS.u hK
   ·have e5:=hS.f hN 5;simp only[e5]at hK⊢;go_simp;exact hS.o hK
   ·have e17:=hS.f hN 17;simp only[e17]at hK⊢;go_simp;exact hS.o hK
  intro L s w9 hall hS;have e9:=hS.fx 18 rfl rfl (hall 18 (by decide));have q9:=hS.mem.bel;clear hS hall;go_wp2_with fail;exact bodyPost_ret (v:= .bool false) (by simp[results,Tryz.results97,go_sem,e9]) rfl ⟨rfl,q9⟩
 |some l=>
  obtain⟨hs,A',c',B',d',v1,v2,v3,v4,hq⟩:=hs;have S0:=Lk.of hs;have S1:=Lk.of v1;have S2:=Lk.of v2;have S3:=Lk.of v3;have S4:=Lk.of v4;have HQ':=ZH hq;clear hs v1 v2 v3 v4 hq;have HE:Hid ((.bool (Vr.below ⟨some l,hi,v⟩):Value)= .bool (decide (cmpQ v l<0))):=by
   show _=_;rw[cmpQ_lss];rfl
  go_enter Tryz.func97,Tryz.ntmps97;go_upto_region 1 with fail;refine region_st (n:=19) (frame:= ?frame2) (fun jK=>[.val (.fix (.pointer (some ⟨g,0,none⟩))),.val (.fix (.pointer (some ⟨g,0,none⟩))),.val (.fix (.pointer (some ⟨g,0,none⟩))),.val (.fix (.pointer (some ⟨g,0,none⟩))),.val (.fix (.bool true)),.val (.fix (.bool true)),.val (.fix (.pointer (some ⟨g,0,none⟩))),.val (.fix (.pointer (some ⟨g,0,none⟩))),.val (.fix (.pointer (some ⟨g,10,none⟩))),.val (.fix (qv v A c B d)),.val (.fix (.pointer (some ⟨g,0,none⟩))),.val (.fix (.pointer (some ⟨g,0,none⟩))),.val (.fix (.pointer (some ⟨g,0,none⟩))),.val (.fix (.pointer (some ⟨g,1,none⟩))),.val (.fix (qv l A' c' B' d')),.val (.fix (.int .i64 (cmpQ v l))),.val (.fix (.bool (decide (cmpQ v l<0)))),.val (.fix (.bool (decide (cmpQ v l<0)))),.val (.fix (.bool (decide (cmpQ v l<0))))].getD jK .none) [] (by kernel_rfl) (by kernel_rfl) (by kernel_rfl) rfl M (fun _ h=>by cases h) (fun _ h=>by cases h) ?_ ?_ ?_
  case refine_1=>
   intro s;simp only[fr,Act.put,zA,zB,zC,zD,zE,zF,Nat.reduceAdd];rfl
  case refine_2=>
   refine SC 0 1 rfl ?_ (SC 1 2 rfl ?_ (SC 2 3 rfl ?_ (SC 3 4 rfl ?_ (SC 4 5 rfl ?_ (SC 5 6 rfl ?_ (SC 6 7 rfl ?_ (SC 7 8 rfl ?_ (SC 8 9 rfl ?_ (SC 9 10 rfl ?_ (SC 10 11 rfl ?_ (SC 11 12 rfl ?_ (SC 12 13 rfl ?_ (SC 13 14 rfl ?_ (SC 14 15 rfl ?_ (SC 15 16 rfl ?_ (SC 16 17 rfl ?_ (SC 17 18 rfl ?_ (SC 18 19 rfl ?_ Steps.nil))))))))))))))))));all_goals (intro L s w9 hN hU hi hS K hK;dsimp only at hK⊢;simp only[Act.put,zD,zE,zF]at hK)
   ·go_simp;exact hS.o hK
   ·have e0:=hS.f hN 0;simp only[e0]at hK⊢;go_simp;exact hS.o hK
   ·have e1:=hS.f hN 1;simp only[e1]at hK⊢;go_simp;exact hS.o hK
   ·have e2:=hS.f hN 2;simp only[e2]at hK⊢;go_simp;exact hS.o hK
   ·have e3:=hS.f hN 3;simp only[e3]at hK⊢;have u0:=S0 _ hS.mem.bel;go_simp;exact hS.o hK
   ·have e4:=hS.f hN 4;simp only[e4]at hK⊢;go_simp;exact hS.o hK
   ·have e5:=hS.f hN 5;simp only[e5]at hK⊢;go_simp;exact hS.o hK
   ·have e6:=hS.f hN 6;simp only[e6]at hK⊢;have e5:=hS.f hN 5;simp only[e5]at hK⊢;go_simp;exact hS.o hK
   ·have e7:=hS.f hN 7;simp only[e7]at hK⊢;have e5:=hS.f hN 5;simp only[e5]at hK⊢;go_simp;exact hS.o hK
   ·have e8:=hS.f hN 8;simp only[e8]at hK⊢;have e5:=hS.f hN 5;simp only[e5]at hK⊢;have u0:=V1 _ hS.mem.bel;have u1:=V2 _ hS.mem.bel;have u2:=V3 _ hS.mem.bel;have u3:=V4 _ hS.mem.bel;go_simp;exact hS.o hK
   ·have e5:=hS.f hN 5;simp only[e5]at hK⊢;go_simp;exact hS.o hK
   ·have e10:=hS.f hN 10;simp only[e10]at hK⊢;have e5:=hS.f hN 5;simp only[e5]at hK⊢;go_simp;exact hS.o hK
   ·have e11:=hS.f hN 11;simp only[e11]at hK⊢;have e5:=hS.f hN 5;simp only[e5]at hK⊢;go_simp;exact hS.o hK
   ·have e12:=hS.f hN 12;simp only[e12]at hK⊢;have e5:=hS.f hN 5;simp only[e5]at hK⊢;go_simp;exact hS.o hK
   ·have e13:=hS.f hN 13;simp only[e13]at hK⊢;have e5:=hS.f hN 5;simp only[e5]at hK⊢;have u0:=S1 _ hS.mem.bel;have u1:=S2 _ hS.mem.bel;have u2:=S3 _ hS.mem.bel;have u3:=S4 _ hS.mem.bel;go_simp;exact hS.o hK
   ·have e9:=hS.f hN 9;simp only[e9]at hK⊢;have e14:=hS.f hN 14;simp only[e14]at hK⊢;have e5:=hS.f hN 5;simp only[e5]at hK⊢;go_simp;go_at_call 93;refine(pcmp_any (HQ.out.below hS.mem.bel) (HQ'.out.below hS.mem.bel)).mono ?_;rintro e9 w10 ⟨rfl,q⟩;exact hK.out _ _ (hS.val rfl (noStore_of rfl) q rfl)
   ·have e15:=hS.f hN 15;simp only[e15]at hK⊢;have e5:=hS.f hN 5;simp only[e5]at hK⊢;go_simp;exact hS.o hK
   ·have e5:=hS.f hN 5;simp only[e5]at hK⊢;have e16:=hS.f hN 16;simp only[e16]at hK⊢;go_simp;exact hS.o hK
   ·have e17:=hS.f hN 17;simp only[e17]at hK⊢;go_simp;exact hS.o hK
  intro L s w9 hall hS;have e9:=hS.fx 18 rfl rfl (hall 18 (by decide));have q9:=hS.mem.bel;clear hS hall;go_wp2_with fail;exact bodyPost_ret (v:= .bool (decide (cmpQ v l<0))) (by simp[results,Tryz.results97,go_sem,e9]) rfl ⟨congrArg _ HE.out.symm,q9⟩
theorem vabove_any {w:World}{g:Nat}{x:Vr}(h:VAt w g x):Calls Tryz.prog 128 #[vptr g] w fun e w'=>e= .returned (.bool x.above)∧Below w.heap.size w w':=by
 have M:=Mem.start w;obtain⟨lo,hi,v⟩:=x;have hs:SideAt w g 5 hi:=h.hi;obtain⟨A,c,B,d,v1,v2,v3,v4,hq⟩:=h.v;have V1:=Lk.of v1;have V2:=Lk.of v2;have V3:=Lk.of v3;have V4:=Lk.of v4;have HQ:=ZH hq;clear h v1 v2 v3 v4 hq;cases hi with
 |none=>
  have S0:=Lk.of hs;clear hs;go_enter Tryz.func128,Tryz.ntmps128;go_upto_region 1 with fail;refine region_st (n:=19) (frame:= ?frame3) (fun jK=>[.val (.fix (.pointer (some ⟨g,0,none⟩))),.val (.fix (.pointer (some ⟨g,0,none⟩))),.val (.fix (.pointer (some ⟨g,5,none⟩))),.val (.fix (.pointer (some ⟨g,5,none⟩))),.val (.fix (.bool false)),.val (.fix (.bool false)),.none,.none,.none,.none,.none,.none,.none,.none,.none,.none,.none,.val (.fix (.bool false)),.val (.fix (.bool false))].getD jK .none) [] (by kernel_rfl) (by kernel_rfl) (by kernel_rfl) rfl M (fun _ h=>by cases h) (fun _ h=>by cases h) ?_ ?_ ?_
  case refine_1=>
   intro s;simp only[fr,Act.put,zA,zB,zC,zD,zE,zF,Nat.reduceAdd];rfl
  case refine_2=>
   refine SC 0 1 rfl ?_ (SC 1 2 rfl ?_ (SC 2 3 rfl ?_ (SC 3 4 rfl ?_ (SC 4 5 rfl ?_ (SC 5 6 rfl ?_ (SC 6 7 rfl ?_ (SC 7 8 rfl ?_ (SC 8 9 rfl ?_ (SC 9 10 rfl ?_ (SC 10 11 rfl ?_ (SC 11 12 rfl ?_ (SC 12 13 rfl ?_ (SC 13 14 rfl ?_ (SC 14 15 rfl ?_ (SC 15 16 rfl ?_ (SC 16 17 rfl ?_ (SC 17 18 rfl ?_ (SC 18 19 rfl ?_ Steps.nil))))))))))))))))));all_goals (intro L s w9 hN hU hi hS K hK;dsimp only at hK⊢;simp only[Act.put,zD,zE,zF]at hK)
   ·go_simp;exact hS.o hK
   ·have e0:=hS.f hN 0;simp only[e0]at hK⊢;go_simp;exact hS.o hK
   ·have e1:=hS.f hN 1;simp only[e1]at hK⊢;go_simp;exact hS.o hK
   ·have e2:=hS.f hN 2;simp only[e2]at hK⊢;go_simp;exact hS.o hK
   ·have e3:=hS.f hN 3;simp only[e3]at hK⊢;have u0:=S0 _ hS.mem.bel;go_simp;exact hS.o hK
   ·have e4:=hS.f hN 4;simp only[e4]at hK⊢;go_simp;exact hS.o hK
   ·have e5:=hS.f hN 5;simp only[e5]at hK⊢;go_simp;exact hS.u hK
   ·have e5:=hS.f hN 5;simp only[e5]at hK⊢;go_simp;exact hS.u hK
   ·have e5:=hS.f hN 5;simp only[e5]at hK⊢;go_simp;exact hS.u hK
   ·have e5:=hS.f hN 5;simp only[e5]at hK⊢;go_simp;exact hS.u hK
   ·have e5:=hS.f hN 5;simp only[e5]at hK⊢;go_simp;exact hS.u hK
   ·have e5:=hS.f hN 5;simp only[e5]at hK⊢;go_simp;exact hS.u hK
   ·have e5:=hS.f hN 5;simp only[e5]at hK⊢;go_simp;exact hS.u hK
   ·have e5:=hS.f hN 5;simp only[e5]at hK⊢;go_simp;exact hS.u hK
   ·have e5:=hS.f hN 5;simp only[e5]at hK⊢;go_simp;exact hS.u hK
   ·have e5:=hS.f hN 5;simp only[e5]at hK⊢;go_simp;exact hS.u hK
   ·have e5:=hS.f hN 5;simp only[e5]at hK⊢;go_simp;exact hS.u hK
   ·have e5:=hS.f hN 5;simp only[e5]at hK⊢;go_simp;exact hS.o hK
   ·have e17:=hS.f hN 17;simp only[e17]at hK⊢;go_simp;exact hS.o hK
  intro L s w9 hall hS;have e9:=hS.fx 18 rfl rfl (hall 18 (by decide));have q9:=hS.mem.bel;clear hS hall;go_wp2_with fail;exact bodyPost_ret (v:= .bool false) (by simp[results,Tryz.results128,go_sem,e9]) rfl ⟨rfl,q9⟩
 |some l=>
  obtain⟨hs,A',c',B',d',v1,v2,v3,v4,hq⟩:=hs;have S0:=Lk.of hs;have S1:=Lk.of v1;have S2:=Lk.of v2;have S3:=Lk.of v3;have S4:=Lk.of v4;have HQ':=ZH hq;clear hs v1 v2 v3 v4 hq;have HE:Hid ((.bool (Vr.above ⟨lo,some l,v⟩):Value)= .bool (decide (0<cmpQ v l))):=by
   show _=_;rw[cmpQ_gtr];rfl
  go_enter Tryz.func128,Tryz.ntmps128;go_upto_region 1 with fail;refine region_st (n:=19) (frame:= ?frame4) (fun jK=>[.val (.fix (.pointer (some ⟨g,0,none⟩))),.val (.fix (.pointer (some ⟨g,0,none⟩))),.val (.fix (.pointer (some ⟨g,5,none⟩))),.val (.fix (.pointer (some ⟨g,5,none⟩))),.val (.fix (.bool true)),.val (.fix (.bool true)),.val (.fix (.pointer (some ⟨g,0,none⟩))),.val (.fix (.pointer (some ⟨g,0,none⟩))),.val (.fix (.pointer (some ⟨g,10,none⟩))),.val (.fix (qv v A c B d)),.val (.fix (.pointer (some ⟨g,0,none⟩))),.val (.fix (.pointer (some ⟨g,0,none⟩))),.val (.fix (.pointer (some ⟨g,5,none⟩))),.val (.fix (.pointer (some ⟨g,6,none⟩))),.val (.fix (qv l A' c' B' d')),.val (.fix (.int .i64 (cmpQ v l))),.val (.fix (.bool (decide (0<cmpQ v l)))),.val (.fix (.bool (decide (0<cmpQ v l)))),.val (.fix (.bool (decide (0<cmpQ v l))))].getD jK .none) [] (by kernel_rfl) (by kernel_rfl) (by kernel_rfl) rfl M (fun _ h=>by cases h) (fun _ h=>by cases h) ?_ ?_ ?_
  case refine_1=>
   intro s;simp only[fr,Act.put,zA,zB,zC,zD,zE,zF,Nat.reduceAdd];rfl
  case refine_2=>
   refine SC 0 1 rfl ?_ (SC 1 2 rfl ?_ (SC 2 3 rfl ?_ (SC 3 4 rfl ?_ (SC 4 5 rfl ?_ (SC 5 6 rfl ?_ (SC 6 7 rfl ?_ (SC 7 8 rfl ?_ (SC 8 9 rfl ?_ (SC 9 10 rfl ?_ (SC 10 11 rfl ?_ (SC 11 12 rfl ?_ (SC 12 13 rfl ?_ (SC 13 14 rfl ?_ (SC 14 15 rfl ?_ (SC 15 16 rfl ?_ (SC 16 17 rfl ?_ (SC 17 18 rfl ?_ (SC 18 19 rfl ?_ Steps.nil))))))))))))))))));all_goals (intro L s w9 hN hU hi hS K hK;dsimp only at hK⊢;simp only[Act.put,zD,zE,zF]at hK)
   ·go_simp;exact hS.o hK
   ·have e0:=hS.f hN 0;simp only[e0]at hK⊢;go_simp;exact hS.o hK
   ·have e1:=hS.f hN 1;simp only[e1]at hK⊢;go_simp;exact hS.o hK
   ·have e2:=hS.f hN 2;simp only[e2]at hK⊢;go_simp;exact hS.o hK
   ·have e3:=hS.f hN 3;simp only[e3]at hK⊢;have u0:=S0 _ hS.mem.bel;go_simp;exact hS.o hK
   ·have e4:=hS.f hN 4;simp only[e4]at hK⊢;go_simp;exact hS.o hK
   ·have e5:=hS.f hN 5;simp only[e5]at hK⊢;go_simp;exact hS.o hK
   ·have e6:=hS.f hN 6;simp only[e6]at hK⊢;have e5:=hS.f hN 5;simp only[e5]at hK⊢;go_simp;exact hS.o hK
   ·have e7:=hS.f hN 7;simp only[e7]at hK⊢;have e5:=hS.f hN 5;simp only[e5]at hK⊢;go_simp;exact hS.o hK
   ·have e8:=hS.f hN 8;simp only[e8]at hK⊢;have e5:=hS.f hN 5;simp only[e5]at hK⊢;have u0:=V1 _ hS.mem.bel;have u1:=V2 _ hS.mem.bel;have u2:=V3 _ hS.mem.bel;have u3:=V4 _ hS.mem.bel;go_simp;exact hS.o hK
   ·have e5:=hS.f hN 5;simp only[e5]at hK⊢;go_simp;exact hS.o hK
   ·have e10:=hS.f hN 10;simp only[e10]at hK⊢;have e5:=hS.f hN 5;simp only[e5]at hK⊢;go_simp;exact hS.o hK
   ·have e11:=hS.f hN 11;simp only[e11]at hK⊢;have e5:=hS.f hN 5;simp only[e5]at hK⊢;go_simp;exact hS.o hK
   ·have e12:=hS.f hN 12;simp only[e12]at hK⊢;have e5:=hS.f hN 5;simp only[e5]at hK⊢;go_simp;exact hS.o hK
   ·have e13:=hS.f hN 13;simp only[e13]at hK⊢;have e5:=hS.f hN 5;simp only[e5]at hK⊢;have u0:=S1 _ hS.mem.bel;have u1:=S2 _ hS.mem.bel;have u2:=S3 _ hS.mem.bel;have u3:=S4 _ hS.mem.bel;go_simp;exact hS.o hK
   ·have e9:=hS.f hN 9;simp only[e9]at hK⊢;have e14:=hS.f hN 14;simp only[e14]at hK⊢;have e5:=hS.f hN 5;simp only[e5]at hK⊢;go_simp;go_at_call 93;refine(pcmp_any (HQ.out.below hS.mem.bel) (HQ'.out.below hS.mem.bel)).mono ?_;rintro e9 w10 ⟨rfl,q⟩;exact hK.out _ _ (hS.val rfl (noStore_of rfl) q rfl)
   ·have e15:=hS.f hN 15;simp only[e15]at hK⊢;have e5:=hS.f hN 5;simp only[e5]at hK⊢;go_simp;exact hS.o hK
   ·have e5:=hS.f hN 5;simp only[e5]at hK⊢;have e16:=hS.f hN 16;simp only[e16]at hK⊢;go_simp;exact hS.o hK
   ·have e17:=hS.f hN 17;simp only[e17]at hK⊢;go_simp;exact hS.o hK
  intro L s w9 hall hS;have e9:=hS.fx 18 rfl rfl (hall 18 (by decide));have q9:=hS.mem.bel;clear hS hall;go_wp2_with fail;exact bodyPost_ret (v:= .bool (decide (0<cmpQ v l))) (by simp[results,Tryz.results128,go_sem,e9]) rfl ⟨congrArg _ HE.out.symm,q9⟩
theorem vrise_any {w:World}{g:Nat}{x:Vr}(h:VAt w g x):Calls Tryz.prog 130 #[vptr g] w fun e w'=>e= .returned (.bool x.mayRise)∧Below w.heap.size w w':=by
 have M:=Mem.start w;obtain⟨lo,hi,v⟩:=x;have hs:SideAt w g 5 hi:=h.hi;obtain⟨A,c,B,d,v1,v2,v3,v4,hq⟩:=h.v;have V1:=Lk.of v1;have V2:=Lk.of v2;have V3:=Lk.of v3;have V4:=Lk.of v4;have HQ:=ZH hq;clear h v1 v2 v3 v4 hq;cases hi with
 |none=>
  have S0:=Lk.of hs;clear hs;go_enter Tryz.func130,Tryz.ntmps130;go_upto_region 1 with fail;refine region_st (n:=20) (frame:= ?frame5) (fun jK=>[.val (.fix (.pointer (some ⟨g,0,none⟩))),.val (.fix (.pointer (some ⟨g,0,none⟩))),.val (.fix (.pointer (some ⟨g,5,none⟩))),.val (.fix (.pointer (some ⟨g,5,none⟩))),.val (.fix (.bool false)),.val (.fix (.bool true)),.val (.fix (.bool true)),.none,.none,.none,.none,.none,.none,.none,.none,.none,.none,.none,.val (.fix (.bool true)),.val (.fix (.bool true))].getD jK .none) [] (by kernel_rfl) (by kernel_rfl) (by kernel_rfl) rfl M (fun _ h=>by cases h) (fun _ h=>by cases h) ?_ ?_ ?_
  case refine_1=>
   intro s;simp only[fr,Act.put,zA,zB,zC,zD,zE,zF,Nat.reduceAdd];rfl
  case refine_2=>
   refine SC 0 1 rfl ?_ (SC 1 2 rfl ?_ (SC 2 3 rfl ?_ (SC 3 4 rfl ?_ (SC 4 5 rfl ?_ (SC 5 6 rfl ?_ (SC 6 7 rfl ?_ (SC 7 8 rfl ?_ (SC 8 9 rfl ?_ (SC 9 10 rfl ?_ (SC 10 11 rfl ?_ (SC 11 12 rfl ?_ (SC 12 13 rfl ?_ (SC 13 14 rfl ?_ (SC 14 15 rfl ?_ (SC 15 16 rfl ?_ (SC 16 17 rfl ?_ (SC 17 18 rfl ?_ (SC 18 19 rfl ?_ (SC 19 20 rfl ?_ Steps.nil)))))))))))))))))));all_goals (intro L s w9 hN hU hi hS K hK;dsimp only at hK⊢;simp only[Act.put,zD,zE,zF]at hK)
   ·go_simp;exact hS.o hK
   ·have e0:=hS.f hN 0;simp only[e0]at hK⊢;go_simp;exact hS.o hK
   ·have e1:=hS.f hN 1;simp only[e1]at hK⊢;go_simp;exact hS.o hK
   ·have e2:=hS.f hN 2;simp only[e2]at hK⊢;go_simp;exact hS.o hK
   ·have e3:=hS.f hN 3;simp only[e3]at hK⊢;have u0:=S0 _ hS.mem.bel;go_simp;exact hS.o hK
   ·have e4:=hS.f hN 4;simp only[e4]at hK⊢;go_simp;exact hS.o hK
   ·have e5:=hS.f hN 5;simp only[e5]at hK⊢;go_simp;exact hS.o hK
   ·have e6:=hS.f hN 6;simp only[e6]at hK⊢;go_simp;exact hS.u hK
   ·have e6:=hS.f hN 6;simp only[e6]at hK⊢;go_simp;exact hS.u hK
   ·have e6:=hS.f hN 6;simp only[e6]at hK⊢;go_simp;exact hS.u hK
   ·have e6:=hS.f hN 6;simp only[e6]at hK⊢;go_simp;exact hS.u hK
   ·have e6:=hS.f hN 6;simp only[e6]at hK⊢;go_simp;exact hS.u hK
   ·have e6:=hS.f hN 6;simp only[e6]at hK⊢;go_simp;exact hS.u hK
   ·have e6:=hS.f hN 6;simp only[e6]at hK⊢;go_simp;exact hS.u hK
   ·have e6:=hS.f hN 6;simp only[e6]at hK⊢;go_simp;exact hS.u hK
   ·have e6:=hS.f hN 6;simp only[e6]at hK⊢;go_simp;exact hS.u hK
   ·have e6:=hS.f hN 6;simp only[e6]at hK⊢;go_simp;exact hS.u hK
   ·have e6:=hS.f hN 6;simp only[e6]at hK⊢;go_simp;exact hS.u hK
   ·have e6:=hS.f hN 6;simp only[e6]at hK⊢;go_simp;exact hS.o hK
   ·have e18:=hS.f hN 18;simp only[e18]at hK⊢;go_simp;exact hS.o hK
  intro L s w9 hall hS;have e9:=hS.fx 19 rfl rfl (hall 19 (by decide));have q9:=hS.mem.bel;clear hS hall;go_wp2_with fail;exact bodyPost_ret (v:= .bool true) (by simp[results,Tryz.results130,go_sem,e9]) rfl ⟨rfl,q9⟩
 |some l=>
  obtain⟨hs,A',c',B',d',v1,v2,v3,v4,hq⟩:=hs;have S0:=Lk.of hs;have S1:=Lk.of v1;have S2:=Lk.of v2;have S3:=Lk.of v3;have S4:=Lk.of v4;have HQ':=ZH hq;clear hs v1 v2 v3 v4 hq;have HE:Hid ((.bool (Vr.mayRise ⟨lo,some l,v⟩):Value)= .bool (decide (cmpQ v l<0))):=by
   show _=_;rw[cmpQ_lss];rfl
  go_enter Tryz.func130,Tryz.ntmps130;go_upto_region 1 with fail;refine region_st (n:=20) (frame:= ?frame6) (fun jK=>[.val (.fix (.pointer (some ⟨g,0,none⟩))),.val (.fix (.pointer (some ⟨g,0,none⟩))),.val (.fix (.pointer (some ⟨g,5,none⟩))),.val (.fix (.pointer (some ⟨g,5,none⟩))),.val (.fix (.bool true)),.val (.fix (.bool false)),.val (.fix (.bool false)),.val (.fix (.pointer (some ⟨g,0,none⟩))),.val (.fix (.pointer (some ⟨g,0,none⟩))),.val (.fix (.pointer (some ⟨g,10,none⟩))),.val (.fix (qv v A c B d)),.val (.fix (.pointer (some ⟨g,0,none⟩))),.val (.fix (.pointer (some ⟨g,0,none⟩))),.val (.fix (.pointer (some ⟨g,5,none⟩))),.val (.fix (.pointer (some ⟨g,6,none⟩))),.val (.fix (qv l A' c' B' d')),.val (.fix (.int .i64 (cmpQ v l))),.val (.fix (.bool (decide (cmpQ v l<0)))),.val (.fix (.bool (decide (cmpQ v l<0)))),.val (.fix (.bool (decide (cmpQ v l<0))))].getD jK .none) [] (by kernel_rfl) (by kernel_rfl) (by kernel_rfl) rfl M (fun _ h=>by cases h) (fun _ h=>by cases h) ?_ ?_ ?_
  case refine_1=>
   intro s;simp only[fr,Act.put,zA,zB,zC,zD,zE,zF,Nat.reduceAdd];rfl
  case refine_2=>
   refine SC 0 1 rfl ?_ (SC 1 2 rfl ?_ (SC 2 3 rfl ?_ (SC 3 4 rfl ?_ (SC 4 5 rfl ?_ (SC 5 6 rfl ?_ (SC 6 7 rfl ?_ (SC 7 8 rfl ?_ (SC 8 9 rfl ?_ (SC 9 10 rfl ?_ (SC 10 11 rfl ?_ (SC 11 12 rfl ?_ (SC 12 13 rfl ?_ (SC 13 14 rfl ?_ (SC 14 15 rfl ?_ (SC 15 16 rfl ?_ (SC 16 17 rfl ?_ (SC 17 18 rfl ?_ (SC 18 19 rfl ?_ (SC 19 20 rfl ?_ Steps.nil)))))))))))))))))));all_goals (intro L s w9 hN hU hi hS K hK;dsimp only at hK⊢;simp only[Act.put,zD,zE,zF]at hK)
   ·go_simp;exact hS.o hK
   ·have e0:=hS.f hN 0;simp only[e0]at hK⊢;go_simp;exact hS.o hK
   ·have e1:=hS.f hN 1;simp only[e1]at hK⊢;go_simp;exact hS.o hK
   ·have e2:=hS.f hN 2;simp only[e2]at hK⊢;go_simp;exact hS.o hK
   ·have e3:=hS.f hN 3;simp only[e3]at hK⊢;have u0:=S0 _ hS.mem.bel;go_simp;exact hS.o hK
   ·have e4:=hS.f hN 4;simp only[e4]at hK⊢;go_simp;exact hS.o hK
   ·have e5:=hS.f hN 5;simp only[e5]at hK⊢;go_simp;exact hS.o hK
   ·have e6:=hS.f hN 6;simp only[e6]at hK⊢;go_simp;exact hS.o hK
   ·have e7:=hS.f hN 7;simp only[e7]at hK⊢;have e6:=hS.f hN 6;simp only[e6]at hK⊢;go_simp;exact hS.o hK
   ·have e8:=hS.f hN 8;simp only[e8]at hK⊢;have e6:=hS.f hN 6;simp only[e6]at hK⊢;go_simp;exact hS.o hK
   ·have e9:=hS.f hN 9;simp only[e9]at hK⊢;have e6:=hS.f hN 6;simp only[e6]at hK⊢;have u0:=V1 _ hS.mem.bel;have u1:=V2 _ hS.mem.bel;have u2:=V3 _ hS.mem.bel;have u3:=V4 _ hS.mem.bel;go_simp;exact hS.o hK
   ·have e6:=hS.f hN 6;simp only[e6]at hK⊢;go_simp;exact hS.o hK
   ·have e11:=hS.f hN 11;simp only[e11]at hK⊢;have e6:=hS.f hN 6;simp only[e6]at hK⊢;go_simp;exact hS.o hK
   ·have e12:=hS.f hN 12;simp only[e12]at hK⊢;have e6:=hS.f hN 6;simp only[e6]at hK⊢;go_simp;exact hS.o hK
   ·have e13:=hS.f hN 13;simp only[e13]at hK⊢;have e6:=hS.f hN 6;simp only[e6]at hK⊢;go_simp;exact hS.o hK
   ·have e14:=hS.f hN 14;simp only[e14]at hK⊢;have e6:=hS.f hN 6;simp only[e6]at hK⊢;have u0:=S1 _ hS.mem.bel;have u1:=S2 _ hS.mem.bel;have u2:=S3 _ hS.mem.bel;have u3:=S4 _ hS.mem.bel;go_simp;exact hS.o hK
   ·have e10:=hS.f hN 10;simp only[e10]at hK⊢;have e15:=hS.f hN 15;simp only[e15]at hK⊢;have e6:=hS.f hN 6;simp only[e6]at hK⊢;go_simp;go_at_call 93;refine(pcmp_any (HQ.out.below hS.mem.bel) (HQ'.out.below hS.mem.bel)).mono ?_;rintro e9 w10 ⟨rfl,q⟩;exact hK.out _ _ (hS.val rfl (noStore_of rfl) q rfl)
   ·have e16:=hS.f hN 16;simp only[e16]at hK⊢;have e6:=hS.f hN 6;simp only[e6]at hK⊢;go_simp;exact hS.o hK
   ·have e6:=hS.f hN 6;simp only[e6]at hK⊢;have e17:=hS.f hN 17;simp only[e17]at hK⊢;go_simp;exact hS.o hK
   ·have e18:=hS.f hN 18;simp only[e18]at hK⊢;go_simp;exact hS.o hK
  intro L s w9 hall hS;have e9:=hS.fx 19 rfl rfl (hall 19 (by decide));have q9:=hS.mem.bel;clear hS hall;go_wp2_with fail;exact bodyPost_ret (v:= .bool (decide (cmpQ v l<0))) (by simp[results,Tryz.results130,go_sem,e9]) rfl ⟨congrArg _ HE.out.symm,q9⟩
theorem vfall_any {w:World}{g:Nat}{x:Vr}(h:VAt w g x):Calls Tryz.prog 129 #[vptr g] w fun e w'=>e= .returned (.bool x.mayFall)∧Below w.heap.size w w':=by
 have M:=Mem.start w;obtain⟨lo,hi,v⟩:=x;have hs:SideAt w g 0 lo:=h.lo;obtain⟨A,c,B,d,v1,v2,v3,v4,hq⟩:=h.v;have V1:=Lk.of v1;have V2:=Lk.of v2;have V3:=Lk.of v3;have V4:=Lk.of v4;have HQ:=ZH hq;clear h v1 v2 v3 v4 hq;cases lo with
 |none=>
  have S0:=Lk.of hs;clear hs;go_enter Tryz.func129,Tryz.ntmps129;go_upto_region 1 with fail;refine region_st (n:=20) (frame:= ?frame7) (fun jK=>[.val (.fix (.pointer (some ⟨g,0,none⟩))),.val (.fix (.pointer (some ⟨g,0,none⟩))),.val (.fix (.pointer (some ⟨g,0,none⟩))),.val (.fix (.pointer (some ⟨g,0,none⟩))),.val (.fix (.bool false)),.val (.fix (.bool true)),.val (.fix (.bool true)),.none,.none,.none,.none,.none,.none,.none,.none,.none,.none,.none,.val (.fix (.bool true)),.val (.fix (.bool true))].getD jK .none) [] (by kernel_rfl) (by kernel_rfl) (by kernel_rfl) rfl M (fun _ h=>by cases h) (fun _ h=>by cases h) ?_ ?_ ?_
  case refine_1=>
   intro s;simp only[fr,Act.put,zA,zB,zC,zD,zE,zF,Nat.reduceAdd];rfl
  case refine_2=>
   refine SC 0 1 rfl ?_ (SC 1 2 rfl ?_ (SC 2 3 rfl ?_ (SC 3 4 rfl ?_ (SC 4 5 rfl ?_ (SC 5 6 rfl ?_ (SC 6 7 rfl ?_ (SC 7 8 rfl ?_ (SC 8 9 rfl ?_ (SC 9 10 rfl ?_ (SC 10 11 rfl ?_ (SC 11 12 rfl ?_ (SC 12 13 rfl ?_ (SC 13 14 rfl ?_ (SC 14 15 rfl ?_ (SC 15 16 rfl ?_ (SC 16 17 rfl ?_ (SC 17 18 rfl ?_ (SC 18 19 rfl ?_ (SC 19 20 rfl ?_ Steps.nil)))))))))))))))))));all_goals (intro L s w9 hN hU hi hS K hK;dsimp only at hK⊢;simp only[Act.put,zD,zE,zF]at hK)
   ·go_simp;exact hS.o hK
   ·have e0:=hS.f hN 0;simp only[e0]at hK⊢;go_simp;exact hS.o hK
   ·have e1:=hS.f hN 1;simp only[e1]at hK⊢;go_simp;exact hS.o hK
   ·have e2:=hS.f hN 2;simp only[e2]at hK⊢;go_simp;exact hS.o hK
   ·have e3:=hS.f hN 3;simp only[e3]at hK⊢;have u0:=S0 _ hS.mem.bel;go_simp;exact hS.o hK
   ·have e4:=hS.f hN 4;simp only[e4]at hK⊢;go_simp;exact hS.o hK
   ·have e5:=hS.f hN 5;simp only[e5]at hK⊢;go_simp;exact hS.o hK
   ·have e6:=hS.f hN 6;simp only[e6]at hK⊢;go_simp;exact hS.u hK
   ·have e6:=hS.f hN 6;simp only[e6]at hK⊢;go_simp;exact hS.u hK
   ·have e6:=hS.f hN 6;simp only[e6]at hK⊢;go_simp;exact hS.u hK
   ·have e6:=hS.f hN 6;simp only[e6]at hK⊢;go_simp;exact hS.u hK
   ·have e6:=hS.f hN 6;simp only[e6]at hK⊢;go_simp;exact hS.u hK
   ·have e6:=hS.f hN 6;simp only[e6]at hK⊢;go_simp;exact hS.u hK
   ·have e6:=hS.f hN 6;simp only[e6]at hK⊢;go_simp;exact hS.u hK
   ·have e6:=hS.f hN 6;simp only[e6]at hK⊢;go_simp;exact hS.u hK
   ·have e6:=hS.f hN 6;simp only[e6]at hK⊢;go_simp;exact hS.u hK
   ·have e6:=hS.f hN 6;simp only[e6]at hK⊢;go_simp;exact hS.u hK
   ·have e6:=hS.f hN 6;simp only[e6]at hK⊢;go_simp;exact hS.u hK
   ·have e6:=hS.f hN 6;simp only[e6]at hK⊢;go_simp;exact hS.o hK
   ·have e18:=hS.f hN 18;simp only[e18]at hK⊢;go_simp;exact hS.o hK
  intro L s w9 hall hS;have e9:=hS.fx 19 rfl rfl (hall 19 (by decide));have q9:=hS.mem.bel;clear hS hall;go_wp2_with fail;exact bodyPost_ret (v:= .bool true) (by simp[results,Tryz.results129,go_sem,e9]) rfl ⟨rfl,q9⟩
 |some l=>
  obtain⟨hs,A',c',B',d',v1,v2,v3,v4,hq⟩:=hs;have S0:=Lk.of hs;have S1:=Lk.of v1;have S2:=Lk.of v2;have S3:=Lk.of v3;have S4:=Lk.of v4;have HQ':=ZH hq;clear hs v1 v2 v3 v4 hq;have HE:Hid ((.bool (Vr.mayFall ⟨some l,hi,v⟩):Value)= .bool (decide (0<cmpQ v l))):=by
   show _=_;rw[cmpQ_gtr];rfl
  go_enter Tryz.func129,Tryz.ntmps129;go_upto_region 1 with fail;refine region_st (n:=20) (frame:= ?frame8) (fun jK=>[.val (.fix (.pointer (some ⟨g,0,none⟩))),.val (.fix (.pointer (some ⟨g,0,none⟩))),.val (.fix (.pointer (some ⟨g,0,none⟩))),.val (.fix (.pointer (some ⟨g,0,none⟩))),.val (.fix (.bool true)),.val (.fix (.bool false)),.val (.fix (.bool false)),.val (.fix (.pointer (some ⟨g,0,none⟩))),.val (.fix (.pointer (some ⟨g,0,none⟩))),.val (.fix (.pointer (some ⟨g,10,none⟩))),.val (.fix (qv v A c B d)),.val (.fix (.pointer (some ⟨g,0,none⟩))),.val (.fix (.pointer (some ⟨g,0,none⟩))),.val (.fix (.pointer (some ⟨g,0,none⟩))),.val (.fix (.pointer (some ⟨g,1,none⟩))),.val (.fix (qv l A' c' B' d')),.val (.fix (.int .i64 (cmpQ v l))),.val (.fix (.bool (decide (0<cmpQ v l)))),.val (.fix (.bool (decide (0<cmpQ v l)))),.val (.fix (.bool (decide (0<cmpQ v l))))].getD jK .none) [] (by kernel_rfl) (by kernel_rfl) (by kernel_rfl) rfl M (fun _ h=>by cases h) (fun _ h=>by cases h) ?_ ?_ ?_
  case refine_1=>
   intro s;simp only[fr,Act.put,zA,zB,zC,zD,zE,zF,Nat.reduceAdd];rfl
  case refine_2=>
   refine SC 0 1 rfl ?_ (SC 1 2 rfl ?_ (SC 2 3 rfl ?_ (SC 3 4 rfl ?_ (SC 4 5 rfl ?_ (SC 5 6 rfl ?_ (SC 6 7 rfl ?_ (SC 7 8 rfl ?_ (SC 8 9 rfl ?_ (SC 9 10 rfl ?_ (SC 10 11 rfl ?_ (SC 11 12 rfl ?_ (SC 12 13 rfl ?_ (SC 13 14 rfl ?_ (SC 14 15 rfl ?_ (SC 15 16 rfl ?_ (SC 16 17 rfl ?_ (SC 17 18 rfl ?_ (SC 18 19 rfl ?_ (SC 19 20 rfl ?_ Steps.nil)))))))))))))))))));all_goals (intro L s w9 hN hU hi hS K hK;dsimp only at hK⊢;simp only[Act.put,zD,zE,zF]at hK)
   ·go_simp;exact hS.o hK
   ·have e0:=hS.f hN 0;simp only[e0]at hK⊢;go_simp;exact hS.o hK
   ·have e1:=hS.f hN 1;simp only[e1]at hK⊢;go_simp;exact hS.o hK
   ·have e2:=hS.f hN 2;simp only[e2]at hK⊢;go_simp;exact hS.o hK
   ·have e3:=hS.f hN 3;simp only[e3]at hK⊢;have u0:=S0 _ hS.mem.bel;go_simp;exact hS.o hK
   ·have e4:=hS.f hN 4;simp only[e4]at hK⊢;go_simp;exact hS.o hK
   ·have e5:=hS.f hN 5;simp only[e5]at hK⊢;go_simp;exact hS.o hK
   ·have e6:=hS.f hN 6;simp only[e6]at hK⊢;go_simp;exact hS.o hK
   ·have e7:=hS.f hN 7;simp only[e7]at hK⊢;have e6:=hS.f hN 6;simp only[e6]at hK⊢;go_simp;exact hS.o hK
   ·have e8:=hS.f hN 8;simp only[e8]at hK⊢;have e6:=hS.f hN 6;simp only[e6]at hK⊢;go_simp;exact hS.o hK
   ·have e9:=hS.f hN 9;simp only[e9]at hK⊢;have e6:=hS.f hN 6;simp only[e6]at hK⊢;have u0:=V1 _ hS.mem.bel;have u1:=V2 _ hS.mem.bel;have u2:=V3 _ hS.mem.bel;have u3:=V4 _ hS.mem.bel;go_simp;exact hS.o hK
   ·have e6:=hS.f hN 6;simp only[e6]at hK⊢;go_simp;exact hS.o hK
   ·have e11:=hS.f hN 11;simp only[e11]at hK⊢;have e6:=hS.f hN 6;simp only[e6]at hK⊢;go_simp;exact hS.o hK
   ·have e12:=hS.f hN 12;simp only[e12]at hK⊢;have e6:=hS.f hN 6;simp only[e6]at hK⊢;go_simp;exact hS.o hK
   ·have e13:=hS.f hN 13;simp only[e13]at hK⊢;have e6:=hS.f hN 6;simp only[e6]at hK⊢;go_simp;exact hS.o hK
   ·have e14:=hS.f hN 14;simp only[e14]at hK⊢;have e6:=hS.f hN 6;simp only[e6]at hK⊢;have u0:=S1 _ hS.mem.bel;have u1:=S2 _ hS.mem.bel;have u2:=S3 _ hS.mem.bel;have u3:=S4 _ hS.mem.bel;go_simp;exact hS.o hK
   ·have e10:=hS.f hN 10;simp only[e10]at hK⊢;have e15:=hS.f hN 15;simp only[e15]at hK⊢;have e6:=hS.f hN 6;simp only[e6]at hK⊢;go_simp;go_at_call 93;refine(pcmp_any (HQ.out.below hS.mem.bel) (HQ'.out.below hS.mem.bel)).mono ?_;rintro e9 w10 ⟨rfl,q⟩;exact hK.out _ _ (hS.val rfl (noStore_of rfl) q rfl)
   ·have e16:=hS.f hN 16;simp only[e16]at hK⊢;have e6:=hS.f hN 6;simp only[e6]at hK⊢;go_simp;exact hS.o hK
   ·have e6:=hS.f hN 6;simp only[e6]at hK⊢;have e17:=hS.f hN 17;simp only[e17]at hK⊢;go_simp;exact hS.o hK
   ·have e18:=hS.f hN 18;simp only[e18]at hK⊢;go_simp;exact hS.o hK
  intro L s w9 hall hS;have e9:=hS.fx 19 rfl rfl (hall 19 (by decide));have q9:=hS.mem.bel;clear hS hall;go_wp2_with fail;exact bodyPost_ret (v:= .bool (decide (0<cmpQ v l))) (by simp[results,Tryz.results129,go_sem,e9]) rfl ⟨congrArg _ HE.out.symm,q9⟩
end Go.Proofs.YtpnmcacndjkfaaaGreat

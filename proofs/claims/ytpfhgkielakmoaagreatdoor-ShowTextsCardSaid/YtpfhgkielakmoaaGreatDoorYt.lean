/-
  Joined texts: Ys, Yt.
-/
import Derived.Test.YtpfhgkielakmoaaGreatDoorYr
import Derived.Test.YtpfhgkielakmoaaGreatDoorYo
set_option maxHeartbeats 40000000
set_option maxRecDepth 100000
set_option linter.unusedSimpArgs false
set_option linter.unusedVariables false
namespace Go.Proofs.YtpfhgkielakmoaaGreatDoor
open Go.RowKit Num Go.Joins
def FewT (x:It):Prop:=x.name.length≤100∧x.vals.length≤64∧x.dom.length≤300∧∀y∈x.vals,RngE y∧y.s.length≤100∧y.l.length≤64∧∀z∈y.l,z.s.length≤100
theorem FewT.of {x:It} (hr:RngI x) (hf:FewP x) (h1:x.vals.length≤64) (h2:∀y∈x.vals,y.l.length≤64):FewT x:=
 ⟨hf.1,h1,hf.2.2.1,fun y hy=>⟨hr.2.2 y hy,(hf.2.2.2 y hy).1,h2 y hy,(hf.2.2.2 y hy).2.2⟩⟩
theorem rsize_len {x:It} (h:I64 x.size):(sizeS x).length≤26:=by
 unfold sizeS;have:=itoa_len h;rw[List.length_append,List.length_append];show 4+_+1≤_;omega
theorem rvar_len {x:It} (hD:(rdomS x).length≤7000) (hn:x.name.length≤100) (hv:∀y∈x.vals,I64 y.n∧y.s.length≤100):(rvarS x).length≤8000:=by
 obtain ⟨k,nm,b,dm,sz,o,vs,ak⟩:=x;rw[rvar_eq];dsimp only at*;have h1:(if o=true then [32,58,58,32]++wOutVar else []).length≤20:=by cases o<;>decide
 cases vs with
 |nil=>
  simp only[List.length_append,List.length_cons,List.length_nil]at h1 hD⊢;omega
 |cons y r=>
  have h2:=rplain_len (y:=y.low) (hv y List.mem_cons_self).1 (hv y List.mem_cons_self).2;simp only[List.length_append,List.length_cons,List.length_nil]at h1 h2 hD⊢;omega
theorem rtext_len {x:It} (hr:RngI x) (hf:FewT x):(rtextS x).length≤500000:=by
 obtain ⟨f1,f2,f3,f4⟩:=hf;have hT:(truthS x.bool).length≤4:=by cases x.bool<;>decide
 have hL:=rlist_len (l:=x.vals.map Ex.low) (fun y hy=>by
  obtain ⟨z,hz,rfl⟩:=List.mem_map.1 hy;exact ⟨(f4 z hz).1.1,(f4 z hz).2.1⟩)
 rw[List.length_map]at hL;have hA:=rargs_len (l:=x.vals) f4;have hD:=rdom_len (x:=x) hr.2.1 f3;have hZ:=rsize_len hr.1;unfold rtextS;split
 ·simp only[List.length_append,List.length_cons,List.length_nil];omega
 split
 ·have h3:=rvar_len hD f1 (fun y hy=>⟨(f4 y hy).1.1,(f4 y hy).2.1⟩);omega
 split
 ·unfold rarrS;have h1:(if x.k=4 then ([118,97,114,32]:List UInt8) else []).length≤4:=by split<;>decide
  have h2:(if x.out then [32,58,58,32]++wOutArray++[40]++sizeS x++[41] else []).length≤100:=by
   cases x.out with
   |false=>exact Nat.zero_le _
   |true=>
    show ([32,58,58,32]++wOutArray++[40]++sizeS x++[41]).length≤_;simp only[List.length_append,List.length_cons,List.length_nil,wOutArray];omega
  simp only[List.length_append,List.length_cons,List.length_nil,wArray]at h1 h2⊢;omega
 split
 ·simp only[List.length_append,List.length_cons,List.length_nil,wConstraint];omega
 split
 ·decide
 split
 ·simp only[List.length_append,List.length_cons,List.length_nil,wSolMin];omega
 ·simp only[List.length_append,List.length_cons,List.length_nil,wSolve,wMaximize];omega
theorem rtextS_1 {x:It} (h:x.k=1):rtextS x=truthS x.bool++[58,32]++x.name++[32,61,32]++rlistS (x.vals.map Ex.low)++[59]:=if_pos h
theorem rtextS_2 {x:It} (h:x.k=2):rtextS x=rvarS x:=by unfold rtextS;rw[if_neg (by omega),if_pos h]
theorem rtextS_34 {x:It} (h:x.k=3∨x.k=4):rtextS x=rarrS x:=by unfold rtextS;rw[if_neg (by omega),if_neg (by omega),if_pos h]
theorem rtextS_5 {x:It} (h:x.k=5):rtextS x=wConstraint++[32]++x.name++[40]++rargsS x.vals++[41,59]:=by unfold rtextS;rw[if_neg (by omega),if_neg (by omega),if_neg (by omega),if_pos h]
theorem rtextS_6 {x:It} (h1:¬x.k=1) (h2:¬x.k=2) (h3:¬x.k=3) (h4:¬x.k=4) (h5:¬x.k=5):rtextS x=if x.ask=0 then wSolve++[32]++wSatisfy++[59] else if x.ask=1 then wSolMin++x.name++[59] else wSolve++[32]++wMaximize++[32]++x.name++[59]:=by
 unfold rtextS;rw[if_neg h1,if_neg h2,if_neg (by omega),if_neg h5]
theorem h7text_any {F G:Nat→Prop} (x:It) (n3:Nat) (A3:Option Addr) (n6:Nat) (A6:Option Addr) (w:World) (hE:Env w) (hr:RngI x) (hf:FewT x) (hda:layR.row.P G w (.slice A3 x.dom.length n3) x.dom) (ha:(layE 50).row.P F w (.slice A6 x.vals.length n6) x.vals):Calls Tryz.prog 32 #[itA x A3 n3 A6 n6] w fun e w'=>e= .returned (.string ⟨(rtextS x).toArray⟩)∧Below w.heap.size w w':=by
 obtain ⟨k,nm,b,dm,sz,o,vs,ak⟩:=x;unfold itA;dsimp only at*;have q0:=below_alloc1 w (.cells #[.int .i64 k,.string ⟨nm.toArray⟩,.bool b,.slice A3 dm.length n3,.int .i64 sz,.bool o,.slice A6 vs.length n6,.int .i64 ak] 28);have hE1:=hE.below q0;have HR:=Lib.hid hr;have HFW:=Lib.hid hf;have hn:nm.length≤100:=hf.1;have hvn:vs.length≤64:=hf.2.1;have HDA:=Lib.hid (fun (w':World) (q:Below w.heap.size w w')=>Dt.below _ hda q (Nat.le_refl _));have HA:=Lib.hid (fun (w':World) (q:Below w.heap.size w w')=>Dt.below _ ha q (Nat.le_refl _));clear hr hda ha hf;have HV2:Hid (∀y∈vs,RngE y∧y.s.length≤100):=fun y hy=>⟨(HFW.out.2.2.2 y hy).1,(HFW.out.2.2.2 y hy).2.1⟩;have HVI:Hid (∀y∈vs,I64 y.n∧y.s.length≤100):=fun y hy=>⟨(HV2.out y hy).1.1,(HV2.out y hy).2⟩;have hNl:(⟨nm.toArray⟩:ByteArray).size≤100:=hn;have hNt:Hid ((⟨nm.toArray⟩:ByteArray).data.toList=nm):=rfl;have hd300:dm.length≤300:=HFW.out.2.2.1;have M:Mem w (w.alloc (.cells #[.int .i64 k,.string ⟨nm.toArray⟩,.bool b,.slice A3 dm.length n3,.int .i64 sz,.bool o,.slice A6 vs.length n6,.int .i64 ak] 28)) [(w.heap.size,28,#[.int .i64 k,.string ⟨nm.toArray⟩,.bool b,.slice A3 dm.length n3,.int .i64 sz,.bool o,.slice A6 vs.length n6,.int .i64 ak])] []:=(Mem.start w).new 28 _;by_cases h1:k=1
 ·subst h1;have HZ:=Lib.hid (rtextS_1 (x:=⟨1,nm,b,dm,sz,o,vs,ak⟩) rfl);have HK:=Lib.hid (h7kind_any b);have HL:=Lib.hid (fun (w':World) (q:Below w.heap.size w w')=>h7list_ex A6 n6 vs w' (hE.below q) (HA.out w' q) (by omega) HVI.out);have hll:=rlist_len (l:=vs.map Ex.low) (fun y hy=>by
   obtain ⟨z,hz,rfl⟩:=List.mem_map.1 hy;exact HVI.out z hz)
  rw[List.length_map]at hll;have hTl:(⟨(truthS b).toArray⟩:ByteArray).size≤10:=by cases b<;>decide
  have hVl:(⟨(rlistS (vs.map Ex.low)).toArray⟩:ByteArray).size≤20400:=by
   show (rlistS (vs.map Ex.low)).length≤_;omega
  have hTt:Hid ((⟨(truthS b).toArray⟩:ByteArray).data.toList=truthS b):=rfl;have hVt:Hid ((⟨(rlistS (vs.map Ex.low)).toArray⟩:ByteArray).data.toList=rlistS (vs.map Ex.low)):=rfl;generalize (⟨(truthS b).toArray⟩:ByteArray)=T at*;generalize (⟨nm.toArray⟩:ByteArray)=N at*;generalize (⟨(rlistS (vs.map Ex.low)).toArray⟩:ByteArray)=V at*;have hz1:Hid (¬9223372036854775807<T.size+2):=by show ¬_;omega
  have hz2:Hid (¬9223372036854775807<T.size+2+N.size):=by show ¬_;omega
  have hz3:Hid (¬9223372036854775807<T.size+2+N.size+3):=by show ¬_;omega
  have hz4:Hid (¬9223372036854775807<T.size+2+N.size+3+V.size):=by show ¬_;omega
  have hz5:Hid (¬9223372036854775807<T.size+2+N.size+3+V.size+1):=by show ¬_;omega
  clear hll hTl hVl hNl hn hvn hE1 q0 hd300;go_enter Tryz.func32,Tryz.ntmps32;go_upto_region 3 with fail;refine region_st (n:=14) (frame:= ?frame1) (fun jK=>[.val (.fix (.pointer (some ⟨w.heap.size,2,none⟩))),.val (.fix (.bool b)),.val (.fix (.string T)),.val (.fix (.string (T++⟨#[58,32]⟩))),.val (.fix (.pointer (some ⟨w.heap.size,1,none⟩))),.val (.fix (.string N)),.val (.fix (.string (T++⟨#[58,32]⟩++N))),.val (.fix (.string (T++⟨#[58,32]⟩++N++⟨#[32,61,32]⟩))),.val (.fix (.pointer (some ⟨w.heap.size,6,none⟩))),.val (.fix (.slice A6 vs.length n6)),.val (.fix (.string V)),.val (.fix (.string (T++⟨#[58,32]⟩++N++⟨#[32,61,32]⟩++V))),.val (.fix (.string (T++⟨#[58,32]⟩++N++⟨#[32,61,32]⟩++V++⟨#[59]⟩))),.val (.fix (.string (T++⟨#[58,32]⟩++N++⟨#[32,61,32]⟩++V++⟨#[59]⟩)))].getD jK .none) [] (by kernel_rfl) (by kernel_rfl) (by kernel_rfl) rfl M (fun _ h=>by cases h) (fun _ h=>by cases h) ?_ ?_ ?_
  case refine_1=>
   intro s;simp only[fr,Act.put,List.append_eq,List.cons_append,List.nil_append,List.setIfInBounds_toArray,List.set_cons_zero,List.set_cons_succ,Nat.reduceAdd];rfl
  case refine_2=>
   refine SC 0 1 rfl ?_ (SC 1 2 rfl ?_ (SC 2 3 rfl ?_ (SC 3 4 rfl ?_ (SC 4 5 rfl ?_ (SC 5 6 rfl ?_ (SC 6 7 rfl ?_ (SC 7 8 rfl ?_ (SC 8 9 rfl ?_ (SC 9 10 rfl ?_ (SC 10 11 rfl ?_ (SC 11 12 rfl ?_ (SC 12 13 rfl ?_ (SC 13 14 rfl ?_ Steps.nil)))))))))))));all_goals (intro L s w9 hN hU hi hS K hK;dsimp only at hK⊢;simp only[Act.put,List.setIfInBounds_toArray,List.set_cons_zero,List.set_cons_succ]at hK)
   ·go_simp;exact hK.out _ _ (hS.v0 rfl rfl rfl)
   ·have e0:=hS.fx 0 rfl rfl (hN.out 0 rfl);simp only[e0]at hK⊢;obtain ⟨u1,u2,u3,u4,u5,u6,u7,u8⟩:=Blk.eight (hS.mem.k (i:=0) rfl);go_simp;exact hK.out _ _ (hS.v0 rfl rfl rfl)
   ·have e1:=hS.fx 1 rfl rfl (hN.out 1 rfl);simp only[e1]at hK⊢;go_simp;go_at_call 50;refine (HK.out _).mono ?_;rintro e9 w10 ⟨rfl,q⟩;exact hK.out _ _ (hS.val rfl (noStore_of rfl) q rfl)
   ·have e2:=hS.fx 2 rfl rfl (hN.out 2 rfl);simp only[e2]at hK⊢;have z1:=hz1.out;go_simp;exact hK.out _ _ (hS.v0 rfl rfl rfl)
   ·go_simp;exact hK.out _ _ (hS.v0 rfl rfl rfl)
   ·have e4:=hS.fx 4 rfl rfl (hN.out 4 rfl);simp only[e4]at hK⊢;obtain ⟨u1,u2,u3,u4,u5,u6,u7,u8⟩:=Blk.eight (hS.mem.k (i:=0) rfl);go_simp;exact hK.out _ _ (hS.v0 rfl rfl rfl)
   ·have e3:=hS.fx 3 rfl rfl (hN.out 3 rfl);simp only[e3]at hK⊢;have e5:=hS.fx 5 rfl rfl (hN.out 5 rfl);simp only[e5]at hK⊢;have z1:=hz2.out;go_simp;exact hK.out _ _ (hS.v0 rfl rfl rfl)
   ·have e6:=hS.fx 6 rfl rfl (hN.out 6 rfl);simp only[e6]at hK⊢;have z1:=hz3.out;go_simp;exact hK.out _ _ (hS.v0 rfl rfl rfl)
   ·go_simp;exact hK.out _ _ (hS.v0 rfl rfl rfl)
   ·have e8:=hS.fx 8 rfl rfl (hN.out 8 rfl);simp only[e8]at hK⊢;obtain ⟨u1,u2,u3,u4,u5,u6,u7,u8⟩:=Blk.eight (hS.mem.k (i:=0) rfl);go_simp;exact hK.out _ _ (hS.v0 rfl rfl rfl)
   ·have e9:=hS.fx 9 rfl rfl (hN.out 9 rfl);simp only[e9]at hK⊢;go_simp;go_at_call 51;refine (HL.out _ hS.mem.bel).mono ?_;rintro e9 w10 ⟨rfl,q⟩;exact hK.out _ _ (hS.val rfl (noStore_of rfl) q rfl)
   ·have e7:=hS.fx 7 rfl rfl (hN.out 7 rfl);simp only[e7]at hK⊢;have e10:=hS.fx 10 rfl rfl (hN.out 10 rfl);simp only[e10]at hK⊢;have z1:=hz4.out;go_simp;exact hK.out _ _ (hS.v0 rfl rfl rfl)
   ·have e11:=hS.fx 11 rfl rfl (hN.out 11 rfl);simp only[e11]at hK⊢;have z1:=hz5.out;go_simp;exact hK.out _ _ (hS.v0 rfl rfl rfl)
   ·have e12:=hS.fx 12 rfl rfl (hN.out 12 rfl);simp only[e12]at hK⊢;go_simp;exact hK.out _ _ (hS.v0 rfl rfl rfl)
  intro L s w9 hall hS;have eS:s 13= .string (T++⟨#[58,32]⟩++N++⟨#[32,61,32]⟩++V++⟨#[59]⟩):=hS.val_at 13 rfl (by decide) (hall 13 (by decide));go_wp2;refine bodyPost_ret (v:= .string (T++⟨#[58,32]⟩++N++⟨#[32,61,32]⟩++V++⟨#[59]⟩)) (by simp[results,Tryz.results32,go_sem,eS]) rfl ⟨?_,hS.mem.bel⟩;rw[HZ.out];congr 2;refine ba_eq ?_;simp only[ByteArray.data_append,Array.toList_append,hTt.out,hNt.out,hVt.out]
 ·have h1':=int_ne0' h1;by_cases h2:k=2
  ·subst h2;have HC:=Lib.hid (h7var_any 2 nm b dm n3 A3 sz o vs n6 A6 ak _ hE1 hn HR.out.2.1 hd300 HV2.out (HDA.out _ q0) (HA.out _ q0));clear hn hvn hNl hd300 M;go_enter Tryz.func32,Tryz.ntmps32;go_wp2_with fail;refine (HC.out).mono ?_;rintro e w1 ⟨rfl,q1⟩;have HZ:=Lib.hid (rtextS_2 (x:=⟨2,nm,b,dm,sz,o,vs,ak⟩) rfl);go_wp2_with fail;refine bodyPost_ret (v:=_) (by simp[results,Tryz.results32,go_sem];rfl) rfl ⟨by rw[HZ.out],below_trans q0 q1⟩
  ·have h2':=int_ne0' h2;by_cases h3:k=3
   ·subst h3;have HC:=Lib.hid (h7arr_any 3 nm b dm n3 A3 sz o vs n6 A6 ak _ hE1 hn HR.out.1 (by omega) HV2.out (HA.out _ q0));clear hn hvn hNl hd300 M;go_enter Tryz.func32,Tryz.ntmps32;go_wp2_with fail;refine (HC.out).mono ?_;rintro e w1 ⟨rfl,q1⟩;have HZ:=Lib.hid (rtextS_34 (x:=⟨3,nm,b,dm,sz,o,vs,ak⟩) (Or.inl rfl));go_wp2_with fail;refine bodyPost_ret (v:=_) (by simp[results,Tryz.results32,go_sem];rfl) rfl ⟨by rw[HZ.out],below_trans q0 q1⟩
   ·have h3':=int_ne0' h3;by_cases h4:k=4
    ·subst h4;have HC:=Lib.hid (h7arr_any 4 nm b dm n3 A3 sz o vs n6 A6 ak _ hE1 hn HR.out.1 (by omega) HV2.out (HA.out _ q0));clear hn hvn hNl hd300 M;go_enter Tryz.func32,Tryz.ntmps32;go_wp2_with fail;refine (HC.out).mono ?_;rintro e w1 ⟨rfl,q1⟩;have HZ:=Lib.hid (rtextS_34 (x:=⟨4,nm,b,dm,sz,o,vs,ak⟩) (Or.inr rfl));go_wp2_with fail;refine bodyPost_ret (v:=_) (by simp[results,Tryz.results32,go_sem];rfl) rfl ⟨by rw[HZ.out],below_trans q0 q1⟩
    ·have h4':=int_ne0' h4;by_cases h5:k=5
     ·subst h5;have HZ:=Lib.hid (rtextS_5 (x:=⟨5,nm,b,dm,sz,o,vs,ak⟩) rfl);have HL:=Lib.hid (fun (w':World) (q:Below w.heap.size w w')=>h7args_any A6 n6 vs w' (hE.below q) (HA.out w' q) (by omega) HFW.out.2.2.2);have hll:=rargs_len (l:=vs) HFW.out.2.2.2;have hVl:(⟨(rargsS vs).toArray⟩:ByteArray).size≤420000:=by
       show (rargsS vs).length≤_;omega
      have hVt:Hid ((⟨(rargsS vs).toArray⟩:ByteArray).data.toList=rargsS vs):=rfl;generalize (⟨nm.toArray⟩:ByteArray)=N at*;generalize (⟨(rargsS vs).toArray⟩:ByteArray)=V at*;have hz1:Hid (¬9223372036854775807<11+N.size):=by show ¬_;omega
      have hz2:Hid (¬9223372036854775807<11+N.size+1):=by show ¬_;omega
      have hz3:Hid (¬9223372036854775807<11+N.size+1+V.size):=by show ¬_;omega
      have hz4:Hid (¬9223372036854775807<11+N.size+1+V.size+2):=by show ¬_;omega
      clear hll hVl hNl hn hvn hE1 q0 hd300 h1 h2 h3 h4 h1' h2' h3' h4';go_enter Tryz.func32,Tryz.ntmps32;go_upto_region 10 with fail;refine region_st (n:=10) (frame:= ?frame2) (fun jK=>[.val (.fix (.pointer (some ⟨w.heap.size,1,none⟩))),.val (.fix (.string N)),.val (.fix (.string (⟨#[99,111,110,115,116,114,97,105,110,116,32]⟩++N))),.val (.fix (.string (⟨#[99,111,110,115,116,114,97,105,110,116,32]⟩++N++⟨#[40]⟩))),.val (.fix (.pointer (some ⟨w.heap.size,6,none⟩))),.val (.fix (.slice A6 vs.length n6)),.val (.fix (.string V)),.val (.fix (.string (⟨#[99,111,110,115,116,114,97,105,110,116,32]⟩++N++⟨#[40]⟩++V))),.val (.fix (.string (⟨#[99,111,110,115,116,114,97,105,110,116,32]⟩++N++⟨#[40]⟩++V++⟨#[41,59]⟩))),.val (.fix (.string (⟨#[99,111,110,115,116,114,97,105,110,116,32]⟩++N++⟨#[40]⟩++V++⟨#[41,59]⟩)))].getD jK .none) [] (by kernel_rfl) (by kernel_rfl) (by kernel_rfl) rfl M (fun _ h=>by cases h) (fun _ h=>by cases h) ?_ ?_ ?_
      case refine_1=>
       intro s;simp only[fr,Act.put,List.append_eq,List.cons_append,List.nil_append,List.setIfInBounds_toArray,List.set_cons_zero,List.set_cons_succ,Nat.reduceAdd];rfl
      case refine_2=>
       refine SC 0 1 rfl ?_ (SC 1 2 rfl ?_ (SC 2 3 rfl ?_ (SC 3 4 rfl ?_ (SC 4 5 rfl ?_ (SC 5 6 rfl ?_ (SC 6 7 rfl ?_ (SC 7 8 rfl ?_ (SC 8 9 rfl ?_ (SC 9 10 rfl ?_ Steps.nil)))))))));all_goals (intro L s w9 hN hU hi hS K hK;dsimp only at hK⊢;simp only[Act.put,List.setIfInBounds_toArray,List.set_cons_zero,List.set_cons_succ]at hK)
       ·go_simp;exact hK.out _ _ (hS.v0 rfl rfl rfl)
       ·have e0:=hS.fx 0 rfl rfl (hN.out 0 rfl);simp only[e0]at hK⊢;obtain ⟨u1,u2,u3,u4,u5,u6,u7,u8⟩:=Blk.eight (hS.mem.k (i:=0) rfl);go_simp;exact hK.out _ _ (hS.v0 rfl rfl rfl)
       ·have e1:=hS.fx 1 rfl rfl (hN.out 1 rfl);simp only[e1]at hK⊢;have z1:=hz1.out;go_simp;exact hK.out _ _ (hS.v0 rfl rfl rfl)
       ·have e2:=hS.fx 2 rfl rfl (hN.out 2 rfl);simp only[e2]at hK⊢;have z1:=hz2.out;go_simp;exact hK.out _ _ (hS.v0 rfl rfl rfl)
       ·go_simp;exact hK.out _ _ (hS.v0 rfl rfl rfl)
       ·have e4:=hS.fx 4 rfl rfl (hN.out 4 rfl);simp only[e4]at hK⊢;obtain ⟨u1,u2,u3,u4,u5,u6,u7,u8⟩:=Blk.eight (hS.mem.k (i:=0) rfl);go_simp;exact hK.out _ _ (hS.v0 rfl rfl rfl)
       ·have e5:=hS.fx 5 rfl rfl (hN.out 5 rfl);simp only[e5]at hK⊢;go_simp;go_at_call 54;refine (HL.out _ hS.mem.bel).mono ?_;rintro e9 w10 ⟨rfl,q⟩;exact hK.out _ _ (hS.val rfl (noStore_of rfl) q rfl)
       ·have e3:=hS.fx 3 rfl rfl (hN.out 3 rfl);simp only[e3]at hK⊢;have e6:=hS.fx 6 rfl rfl (hN.out 6 rfl);simp only[e6]at hK⊢;have z1:=hz3.out;go_simp;exact hK.out _ _ (hS.v0 rfl rfl rfl)
       ·have e7:=hS.fx 7 rfl rfl (hN.out 7 rfl);simp only[e7]at hK⊢;have z1:=hz4.out;go_simp;exact hK.out _ _ (hS.v0 rfl rfl rfl)
       ·have e8:=hS.fx 8 rfl rfl (hN.out 8 rfl);simp only[e8]at hK⊢;go_simp;exact hK.out _ _ (hS.v0 rfl rfl rfl)
      intro L s w9 hall hS;have eS:s 9= .string (⟨#[99,111,110,115,116,114,97,105,110,116,32]⟩++N++⟨#[40]⟩++V++⟨#[41,59]⟩):=hS.val_at 9 rfl (by decide) (hall 9 (by decide));go_wp2;refine bodyPost_ret (v:= .string (⟨#[99,111,110,115,116,114,97,105,110,116,32]⟩++N++⟨#[40]⟩++V++⟨#[41,59]⟩)) (by simp[results,Tryz.results32,go_sem,eS]) rfl ⟨?_,hS.mem.bel⟩;rw[HZ.out];congr 2;refine ba_eq ?_;simp only[ByteArray.data_append,Array.toList_append,hNt.out,hVt.out];rfl
     ·have h5':=int_ne0' h5;have HZ:=Lib.hid (rtextS_6 (x:=⟨k,nm,b,dm,sz,o,vs,ak⟩) h1 h2 h3 h4 h5);generalize (⟨nm.toArray⟩:ByteArray)=N at*;clear hn hvn hE1 hd300 M;by_cases a0:ak=0
      ·have HZ2:=Lib.hid (HZ.out.trans (if_pos a0));subst a0;go_enter Tryz.func32,Tryz.ntmps32;go_wp2_with fail;refine bodyPost_ret (v:= .string ⟨#[115,111,108,118,101,32,115,97,116,105,115,102,121,59]⟩) (by simp[results,Tryz.results32,go_sem]) rfl ⟨by rw[HZ2.out];rfl,q0⟩
      ·by_cases a1:ak=1
       ·have HZ2:=Lib.hid (HZ.out.trans ((if_neg a0).trans (if_pos a1)));subst a1;go_enter Tryz.func32,Tryz.ntmps32;go_wp2_with fail;refine bodyPost_ret (v:= .string (⟨#[115,111,108,118,101,32,109,105,110,105,109,105,122,101,32]⟩++N++⟨#[59]⟩)) (by simp[results,Tryz.results32,go_sem]) rfl ⟨?_,q0⟩;rw[HZ2.out];congr 2;refine ba_eq ?_;simp only[ByteArray.data_append,Array.toList_append,hNt.out];rfl
       ·have HZ2:=Lib.hid (HZ.out.trans ((if_neg a0).trans (if_neg a1)));have a0':=int_ne0' a0;have a1':=int_ne0' a1;go_enter Tryz.func32,Tryz.ntmps32;go_wp2_with fail;refine bodyPost_ret (v:= .string (⟨#[115,111,108,118,101,32,109,97,120,105,109,105,122,101,32]⟩++N++⟨#[59]⟩)) (by simp[results,Tryz.results32,go_sem]) rfl ⟨?_,q0⟩;rw[HZ2.out];congr 2;refine ba_eq ?_;simp only[ByteArray.data_append,Array.toList_append,hNt.out];rfl
theorem row_single {w:World} {ty te:TypeId} {x:It} {A3 A6:Option Addr} {n3 n6:Nat} {F G:Nat→Prop} (hD:layR.row.P G w (.slice A3 x.dom.length n3) x.dom) (hV:(layE te).row.P F w (.slice A6 x.vals.length n6) x.vals):(layI ty te).row.P (fun _=>True) (w.alloc (.cells #[.int .i64 x.k,.string ⟨x.name.toArray⟩,.bool x.bool,.slice A3 x.dom.length n3,.int .i64 x.size,.bool x.out,.slice A6 x.vals.length n6,.int .i64 x.ask] ty)) (.slice (some ⟨w.heap.size,0,none⟩) 1 1) [x]:=by
 have kb:Blk (w.alloc (.cells #[.int .i64 x.k,.string ⟨x.name.toArray⟩,.bool x.bool,.slice A3 x.dom.length n3,.int .i64 x.size,.bool x.out,.slice A6 x.vals.length n6,.int .i64 x.ask] ty)) w.heap.size ty #[.int .i64 x.k,.string ⟨x.name.toArray⟩,.bool x.bool,.slice A3 x.dom.length n3,.int .i64 x.size,.bool x.out,.slice A6 x.vals.length n6,.int .i64 x.ask]:=Blk.new ..;have hD':layR.row.P (fun _=>True) (w.alloc (.cells #[.int .i64 x.k,.string ⟨x.name.toArray⟩,.bool x.bool,.slice A3 x.dom.length n3,.int .i64 x.size,.bool x.out,.slice A6 x.vals.length n6,.int .i64 x.ask] ty)) (.slice A3 x.dom.length n3) x.dom:=layR.row.mono (fun _ _=>trivial) (Dt.below _ hD (below_alloc1 _ _) (Nat.le_refl _));have hV':(layE te).row.P (fun _=>True) (w.alloc (.cells #[.int .i64 x.k,.string ⟨x.name.toArray⟩,.bool x.bool,.slice A3 x.dom.length n3,.int .i64 x.size,.bool x.out,.slice A6 x.vals.length n6,.int .i64 x.ask] ty)) (.slice A6 x.vals.length n6) x.vals:=(layE te).row.mono (fun _ _=>trivial) (Dt.below _ hV (below_alloc1 _ _) (Nat.le_refl _));obtain ⟨u1,u2,u3,u4,u5,u6,u7,u8⟩:=Blk.eight kb;refine ⟨_,_,rfl,Nat.le_refl _,by decide,fun _=>⟨w.heap.size,0,rfl,trivial,kb.lt,fun j hj k hk=> ?_⟩⟩;have hj0:j=0:=by
  have:j<1:=hj;omega
 subst hj0;have hk8:k<8:=hk;match k,hk8 with
 |0,_=>exact ⟨_,u1,rfl⟩
 |1,_=>exact ⟨_,u2,rfl⟩
 |2,_=>exact ⟨_,u3,rfl⟩
 |3,_=>exact ⟨_,u4,hD'⟩
 |4,_=>exact ⟨_,u5,rfl⟩
 |5,_=>exact ⟨_,u6,rfl⟩
 |6,_=>exact ⟨_,u7,hV'⟩
 |7,_=>exact ⟨_,u8,rfl⟩
theorem right_big {x:It} (h:¬x.vals.length≤64):rightR x=false:=by
 unfold rightR;rw[decide_eq_false h,Bool.false_and]
theorem right_dom {x:It} (h:¬x.dom.length≤256):rightR x=false:=by
 unfold rightR;rw[decide_eq_false h,Bool.false_and,Bool.and_false]
theorem right_in {x:It} {y:Ex} (hy:y∈x.vals) (h:¬y.l.length≤64):rightR x=false:=by
 unfold rightR;have:x.vals.all (fun y=>decide (y.l.length≤64))=false:=by
  rw[Bool.eq_false_iff];intro ha;exact h (of_decide_eq_true (List.all_eq_true.1 ha y hy))
 rw[this,Bool.false_and,Bool.and_false,Bool.and_false]
theorem right_end {x:It} (h1:x.vals.length≤64) (h2:x.dom.length≤256) (h3:∀y∈x.vals,y.l.length≤64):rightR x=match dtextO (rtextS x) with|some its=>itsB its [x]|none=>false:=by
 have h4:x.vals.all (fun y=>decide (y.l.length≤64))=true:=List.all_eq_true.2 fun y hy=>decide_eq_true (h3 y hy);unfold rightR;rw[decide_eq_true h1,decide_eq_true h2,h4,dtext_P];simp only[Bool.true_and];by_cases h:(textP (rtextS x)).2.2=0
 ·rw[if_pos h,h];rfl
 ·rw[if_neg h,beq_false_of_ne h];rfl
theorem h7right_any {F G:Nat→Prop} (x:It) (n3:Nat) (A3:Option Addr) (n6:Nat) (A6:Option Addr) (w:World) (hE:Env w) (hr:RngI x) (hf:FewP x) (hda:layR.row.P G w (.slice A3 x.dom.length n3) x.dom) (ha:(layE 50).row.P F w (.slice A6 x.vals.length n6) x.vals):Calls Tryz.prog 31 #[itA x A3 n3 A6 n6] w fun e w'=>e= .returned (.bool (rightR x))∧Below w.heap.size w w':=by
 have HR:=Lib.hid hr;have HFW:=Lib.hid hf;have HDA:=Lib.hid (fun (w':World) (q:Below w.heap.size w w')=>Dt.below _ hda q (Nat.le_refl _));have HA:=Lib.hid (fun (w':World) (q:Below w.heap.size w w')=>Dt.below _ ha q (Nat.le_refl _));have hv100:x.vals.length≤100:=hf.2.1;have hd300:x.dom.length≤300:=hf.2.2.1;clear hr hf hda ha;have M:Mem w (w.alloc (.cells #[.int .i64 x.k,.string ⟨x.name.toArray⟩,.bool x.bool,.slice A3 x.dom.length n3,.int .i64 x.size,.bool x.out,.slice A6 x.vals.length n6,.int .i64 x.ask] 28)) [(w.heap.size,28,#[.int .i64 x.k,.string ⟨x.name.toArray⟩,.bool x.bool,.slice A3 x.dom.length n3,.int .i64 x.size,.bool x.out,.slice A6 x.vals.length n6,.int .i64 x.ask])] []:=(Mem.start w).new 28 _;unfold itA;by_cases h1:x.vals.length≤64
 case neg=>
  have d1:decide ((64:Int)<(x.vals.length:Int))=true:=decide_eq_true (by omega);have HZ:=Lib.hid (right_big h1);clear h1 hv100 hd300;go_enter Tryz.func31,Tryz.ntmps31;go_wp2_with fail;refine bodyPost_ret (v:= .bool false) (by simp[results,Tryz.results31,go_sem]) rfl ⟨by rw[HZ.out],M.bel⟩
 have d1:decide ((64:Int)<(x.vals.length:Int))=false:=decide_eq_false (by omega);by_cases h2:x.dom.length≤256
 case neg=>
  have d2:decide ((256:Int)<(x.dom.length:Int))=true:=decide_eq_true (by omega);have HZ:=Lib.hid (right_dom h2);clear h1 h2 hv100 hd300;go_enter Tryz.func31,Tryz.ntmps31;go_wp2_with fail;refine bodyPost_ret (v:= .bool false) (by simp[results,Tryz.results31,go_sem]) rfl ⟨by rw[HZ.out],M.bel⟩
 have d2:decide ((256:Int)<(x.dom.length:Int))=false:=decide_eq_false (by omega);clear hv100 hd300;go_enter Tryz.func31,Tryz.ntmps31;go_wp2_with fail;go_loopg [3] x.vals.length (fun k' a wr=>∃j,k'=x.vals.length-j∧j≤x.vals.length∧a= .int .i64 (j:Nat)∧Hid (∀y∈x.vals.take j,y.l.length≤64)∧Mem w wr [(w.heap.size,28,#[.int .i64 x.k,.string ⟨x.name.toArray⟩,.bool x.bool,.slice A3 x.dom.length n3,.int .i64 x.size,.bool x.out,.slice A6 x.vals.length n6,.int .i64 x.ask])] [])
 case atStart=>exact ⟨0,rfl,Nat.zero_le _,rfl,(fun y hy=>by cases hy),M⟩
 case round=>
  clear M;obtain ⟨j,hk,hj,rfl,hall,M⟩:=hrel;obtain ⟨m1,m2,m3,m4,m5,m6,m7,m8⟩:=Blk.eight (M.k (i:=0) rfl);by_cases hlt:j<x.vals.length
  ·have d3:decide ((j:Int)<(x.vals.length:Int))=true:=decide_eq_true (by omega);obtain ⟨vb,vo,hA,hv3,hc⟩:=row_ex (HA.out _ M.bel) (by intro e;rw[e]at hlt;cases hlt);obtain ⟨c1,c2,c3,A4,n4,c4,-⟩:=hc j hlt;have HT:=Lib.hid (take_snoc hlt);have HM:=Lib.hid (List.getElem_mem hlt);clear hc c1 c2 c3;generalize x.vals[j]=y at*;have HN:=Lib.hid hA;rw[hA]at m7;by_cases h4:y.l.length≤64
   ·have d4:decide ((64:Int)<(y.l.length:Int))=false:=decide_eq_false (by omega);have HX:Hid (∀z∈x.vals.take (j+1),z.l.length≤64):=by
     intro z hz;rw[HT.out]at hz;rcases List.mem_append.1 hz with hz|hz
     ·exact hall.out z hz
     ·rw[List.mem_singleton.1 hz];exact h4
    clear h4 hA;go_wp2_with fail;go_roundg (x.vals.length-(j+1))
    case measure=>omega
    case rel=>exact ⟨j+1,rfl,by omega,by simp,HX,M⟩
   ·have d4:decide ((64:Int)<(y.l.length:Int))=true:=decide_eq_true (by omega);have HZ:=Lib.hid (right_in HM.out h4);clear h4 hA;go_wp2_with fail;refine bodyPost_ret (v:= .bool false) (by simp[results,Tryz.results31,go_sem]) rfl ⟨by rw[HZ.out],M.bel⟩
  ·have d3:decide ((j:Int)<(x.vals.length:Int))=false:=decide_eq_false (by omega);have hall2:=hall.out;rw[List.take_of_length_le (by omega)]at hall2;have HZ:=Lib.hid (right_end h1 h2 hall2);have HFT:=FewT.of HR.out HFW.out h1 hall2;have hrl:=rtext_len HR.out HFT;have HTX:=Lib.hid (fun (w':World) (q:Below w.heap.size w w')=>h7text_any x n3 A3 n6 A6 w' (hE.below q) HR.out HFT (HDA.out w' q) (HA.out w' q));have HDT:=Lib.hid (fun (w':World)=>d_text ⟨(rtextS x).toArray⟩ (show (rtextS x).length≤1000000 by omega) w');replace HDT:Hid (∀w',Calls Tryz.prog 49 #[.string ⟨(rtextS x).toArray⟩] w' (TxPost w' (dtextO (rtextS x)))):=HDT;have hlow:=textP_low (rtextS x);have hlen:=textP_len (rtextS x);have hdp:=dtext_P (rtextS x);have HB:Hid (∀its,dtextO (rtextS x)=some its→its.length≤512∧∀y∈its,LowI y):=fun its h=>by
    rw[hdp]at h;split at h
    ·obtain rfl:=Option.some.inj h;exact ⟨hlen,hlow⟩
    ·cases h
   unfold itA at HTX;clear hall hall2 h1 h2 HFT hrl hlow hlen hdp;generalize dtextO (rtextS x)=ro at*;generalize (⟨(rtextS x).toArray⟩:ByteArray)=S at*;go_wp2_with fail;refine (HTX.out _ M.bel).mono ?_;rintro e w3 ⟨rfl,q3⟩;have M3:=M.below q3;clear M q3 m1 m2 m3 m4 m5 m6 m7 m8;obtain ⟨m1,m2,m3,m4,m5,m6,m7,m8⟩:=Blk.eight (M3.k (i:=0) rfl);go_wp2_with fail;refine (HDT.out _).mono ?_;rintro e w4 ⟨⟨SS,at4,er4,rfl,hS⟩,q4⟩;have M4:=M3.below q4;clear M3 q4 m1 m2 m3 m4 m5 m6 m7 m8;obtain ⟨m1,m2,m3,m4,m5,m6,m7,m8⟩:=Blk.eight (M4.k (i:=0) rfl);cases ro with
   |none=>
    have h0:(er4==0)=false:=beq_false_of_ne hS;clear hS;go_wp2_with fail;refine bodyPost_ret (v:= .bool false) (by simp[results,Tryz.results31,go_sem]) rfl ⟨by rw[HZ.out],M4.bel⟩
   |some its=>
    obtain ⟨rfl,hS⟩:=hS;obtain ⟨A9,c9,rfl⟩:=Lay.row_len hS;obtain ⟨hb1,hb2⟩:=HB.out its rfl;have HROW:=Lib.hid hS;have HFEW:=Lib.hid (LowI.few3 hb2);clear hS hb2;have q5:=below_alloc1 w4 (.cells #[.int .i64 x.k,.string ⟨x.name.toArray⟩,.bool x.bool,.slice A3 x.dom.length n3,.int .i64 x.size,.bool x.out,.slice A6 x.vals.length n6,.int .i64 x.ask] 28);have HS5:=Lib.hid (row_single (ty:=28) (HDA.out _ M4.bel) (HA.out _ M4.bel));have HC:=Lib.hid (rsameI_any A9 (some ⟨w4.heap.size,0,none⟩) c9 1 its [x] _ (Dt.below _ HROW.out q5 (Nat.le_refl _)) HS5.out (by omega) HFEW.out);go_wp2_with fail;refine (HC.out).mono ?_;rintro e w6 ⟨rfl,q6⟩;go_wp2_with fail;refine bodyPost_ret (v:= .bool (itsB its [x])) (by simp[results,Tryz.results31,go_sem]) rfl ⟨by rw[HZ.out],below_trans (below_trans M4.bel q5) q6⟩
def ritemS (x:It):List UInt8×Int:=if rightR x=true then (rtextS x,0) else ([],2)
theorem h7item_any {F G:Nat→Prop} (x:It) (n3:Nat) (A3:Option Addr) (n6:Nat) (A6:Option Addr) (w:World) (hE:Env w) (hr:RngI x) (hf:FewP x) (hda:layR.row.P G w (.slice A3 x.dom.length n3) x.dom) (ha:(layE 50).row.P F w (.slice A6 x.vals.length n6) x.vals):Calls Tryz.prog 22 #[itA x A3 n3 A6 n6] w fun e w'=>e= .returned (TEV (ritemS x))∧Below w.heap.size w w':=by
 have HC:=Lib.hid (fun (w':World) (q:Below w.heap.size w w')=>h7right_any x n3 A3 n6 A6 w' (hE.below q) hr hf (Dt.below _ hda q (Nat.le_refl _)) (Dt.below _ ha q (Nat.le_refl _)));have HT:=Lib.hid (fun (w':World) (q:Below w.heap.size w w') (h1:x.vals.length≤64) (h2:∀y∈x.vals,y.l.length≤64)=>h7text_any x n3 A3 n6 A6 w' (hE.below q) hr (FewT.of hr hf h1 h2) (Dt.below _ hda q (Nat.le_refl _)) (Dt.below _ ha q (Nat.le_refl _)));have HB:Hid (rightR x=true→x.vals.length≤64∧∀y∈x.vals,y.l.length≤64):=fun h=>by
  unfold rightR at h;simp only[Bool.and_eq_true,decide_eq_true_eq,List.all_eq_true]at h;exact ⟨h.1,h.2.2.1⟩
 have HI:=Lib.hid (show ritemS x=if rightR x=true then (rtextS x,0) else ([],2) from rfl);have M:Mem w (w.alloc (.cells #[.int .i64 x.k,.string ⟨x.name.toArray⟩,.bool x.bool,.slice A3 x.dom.length n3,.int .i64 x.size,.bool x.out,.slice A6 x.vals.length n6,.int .i64 x.ask] 28)) [(w.heap.size,28,#[.int .i64 x.k,.string ⟨x.name.toArray⟩,.bool x.bool,.slice A3 x.dom.length n3,.int .i64 x.size,.bool x.out,.slice A6 x.vals.length n6,.int .i64 x.ask])] []:=(Mem.start w).new 28 _;clear hr hf hda ha;unfold itA at*;go_enter Tryz.func22,Tryz.ntmps22;go_wp2_with fail;refine (HC.out _ M.bel).mono ?_;rintro e w3 ⟨rfl,q3⟩;have M3:=M.below q3;clear M q3 HC;obtain ⟨m1,m2,m3,m4,m5,m6,m7,m8⟩:=Blk.eight (M3.k (i:=0) rfl);cases hb:rightR x with
 |false=>
  rw[hb]at HI;clear hb;go_wp2_with fail;refine bodyPost_ret (v:=TEV ([],2)) (by simp[results,Tryz.results22,go_sem,TEV]) rfl ⟨by rw[HI.out];rfl,M3.bel⟩
 |true=>
  obtain ⟨h1,h2⟩:=HB.out hb;have HT2:=Lib.hid (HT.out _ M3.bel h1 h2);rw[hb]at HI;clear hb h1 h2 HT HB;go_wp2_with fail;refine (HT2.out).mono ?_;rintro e w5 ⟨rfl,q5⟩;go_wp2_with fail;refine bodyPost_ret (v:=TEV (rtextS x,0)) (by simp[results,Tryz.results22,go_sem,TEV]) rfl ⟨by rw[HI.out];rfl,below_trans M3.bel q5⟩
end Go.Proofs.YtpfhgkielakmoaaGreatDoor
set_option maxHeartbeats 8000000
set_option maxRecDepth 100000
set_option linter.unusedSimpArgs false
set_option linter.unusedVariables false
namespace Go.Proofs.YtpfhgkielakmoaaGreatDoor
open Go.RowKit Num Go.Joins
def rtextsS (l:List It):List UInt8:=l.flatMap fun x=>rtextS x++[10]
def rshowL (l:List It):List UInt8×Int:=
 if 512<l.length then ([],3)
 else if l.all rightR=true then (if fitsS (rtextsS l)=true then (rtextsS l,0) else ([],3))
 else ([],2)
theorem rshow_eq {l:List It} (hr:∀x∈l,RngI x) (hf:∀x∈l,FewP x):rshowL l=showL (l.map It.flat):=by
 unfold rshowL showL;rw[List.length_map];by_cases h0:512<l.length
 ·rw[if_pos h0,if_pos h0]
 rw[if_neg h0,if_neg h0];have e1:(l.map It.flat).all (fun x=>(itemS x).2&&fitsS (itemS x).1)=l.all rightR:=by
  rw[List.all_map];rw[Bool.eq_iff_iff,List.all_eq_true,List.all_eq_true];constructor
  ·intro h x hx;rw[(right_eq (hr x hx) (hf x hx)).1];exact h x hx
  ·intro h x hx;have:=h x hx;rw[(right_eq (hr x hx) (hf x hx)).1]at this;exact this
 rw[e1];by_cases h1:l.all rightR=true
 ·rw[if_pos h1,if_pos h1];have e2:rtextsS l=(l.map It.flat).flatMap fun x=>(itemS x).1++[10]:=by
   unfold rtextsS;rw[List.flatMap_map];have h2:∀x∈l,rtextS x=(itemS x.flat).1:=fun x hx=>(right_eq (hr x hx) (hf x hx)).2 (List.all_eq_true.1 h1 x hx);clear e1 h1 h0 hr hf;induction l with
   |nil=>rfl
   |cons a l ih=>
    rw[List.flatMap_cons,List.flatMap_cons,ih fun x hx=>h2 x (List.mem_cons_of_mem _ hx),h2 a List.mem_cons_self]
  rw[e2]
 ·rw[if_neg h1,if_neg h1]
theorem rright_len {x:It} (hr:RngI x) (hf:FewP x) (h:rightR x=true):(rtextS x).length≤8192:=by
 obtain ⟨e1,e2⟩:=right_eq hr hf;rw[e2 h];exact okI_len (by rw[←e1];exact h)
theorem rtexts_snoc (l:List It) (x:It):rtextsS (l++[x])=rtextsS l++(rtextS x++[10]):=by
 unfold rtextsS;rw[List.flatMap_append];simp
theorem h7texts_any {F:Nat→Prop} (A:Option Addr) (c:Nat) (l:List It) (w:World) (hE:Env w) (ha:(layI 28 50).row.P F w (.slice A l.length c) l) (hr:∀x∈l,RngI x) (hf:∀x∈l,FewP x) (hn:l.length≤100):Calls Tryz.prog 11 #[.slice A l.length c] w fun e w'=>e= .returned (TEV (rshowL l))∧Below w.heap.size w w':=by
 have HR:=Lib.hid hr;have HF:=Lib.hid hf;have HA:=Lib.hid ha;have HX:Hid (rshowL l=if l.all rightR=true then (if fitsS (rtextsS l)=true then (rtextsS l,0) else ([],3)) else ([],2)):=by
  show _=_;unfold rshowL;rw[if_neg (by omega)]
 have d0:decide ((512:Int)<(l.length:Int))=false:=decide_eq_false (by omega);clear hr hf ha;go_enter Tryz.func11,Tryz.ntmps11;go_wp2_with fail;go_loopg [4,5] l.length (fun k v a wr=>∃j u,k=l.length-j∧j≤l.length∧a= .int .i64 (j:Nat)∧v= .string u∧Hid (u.data.toList=rtextsS (l.take j))∧Hid (∀x∈l.take j,rightR x=true)∧u.size≤8193*j∧Below w.heap.size w wr)
 case atStart=>exact ⟨0,⟨#[]⟩,rfl,Nat.zero_le _,rfl,rfl,rfl,(fun x hx=>by cases hx),by decide,Below.refl _ _⟩
 case round=>
  obtain ⟨j,u,hk,hj,rfl,rfl,hu,hall,hus,hq⟩:=hrel;by_cases hlt:j<l.length
  ·have d1:decide ((j:Int)<(l.length:Int))=true:=decide_eq_true (by omega);obtain ⟨b,o,hA,hb1,hc⟩:=row_it (Dt.below _ HA.out hq (Nat.le_refl _)) (lt_ne hlt);obtain ⟨f0,f1,f2,f4,f5,f7,⟨A3,n3,f3,hdx⟩,A6,n6,f6,hxv⟩:=hc j hlt;subst hA;have HT:=Lib.hid (take_snoc hlt);have HM:=Lib.hid (List.getElem_mem hlt);have hrj:=HR.out _ (List.getElem_mem hlt);have hfj:=HF.out _ (List.getElem_mem hlt);have HC:=Lib.hid (h7item_any l[j] n3 A3 n6 A6 wr (hE.below hq) hrj hfj hdx hxv);have hlen:=fun h=>rright_len hrj hfj h;clear hc hdx hxv hrj hfj;generalize l[j]=x at*;unfold itA at HC;have hit:ritemS x=if rightR x=true then (rtextS x,0) else ([],2):=rfl
   cases hb:rightR x with
   |false=>
    rw[hb]at hit;replace hit:ritemS x=([],2):=hit;rw[hit]at HC;have HZ:Hid (rshowL l=([],2)):=by
     show _=_;rw[HX.out,if_neg];intro h;have:=List.all_eq_true.1 h x HM.out;rw[hb]at this;cases this
    clear hit hb hlen;obtain ⟨xk,xn,xb,xd,xz,xo,xv,xa⟩:=x;dsimp only[TEV]at f0 f1 f2 f3 f4 f5 f6 f7 HC;go_wp2_with fail;refine (HC.out).mono ?_;rintro e w3 ⟨rfl,q3⟩;go_wp2_with fail;refine bodyPost_ret (v:=TEV ([],2)) (by simp[results,Tryz.results11,go_sem,TEV]) rfl ⟨by rw[HZ.out],below_trans hq q3⟩
   |true=>
    rw[hb]at hit;replace hit:ritemS x=(rtextS x,0):=hit;rw[hit]at HC;have hl2:=hlen hb;have HALL:Hid (∀y∈l.take (j+1),rightR y=true):=by
     intro y hy;rw[HT.out]at hy;rcases List.mem_append.1 hy with hy|hy
     ·exact hall.out y hy
     ·rw[List.mem_singleton.1 hy];exact hb
    have HSN:=Lib.hid (rtexts_snoc (l.take j) x);dsimp only[TEV]at HC;have hsz:(⟨(rtextS x).toArray⟩:ByteArray).size≤8192:=hl2;have hst:Hid ((⟨(rtextS x).toArray⟩:ByteArray).data.toList=rtextS x):=rfl;generalize (⟨(rtextS x).toArray⟩:ByteArray)=S at*;clear hit hb hlen hl2;obtain ⟨xk,xn,xb,xd,xz,xo,xv,xa⟩:=x;dsimp only at f0 f1 f2 f3 f4 f5 f6 f7 HC;go_wp2_with fail;refine (HC.out).mono ?_;rintro e w3 ⟨rfl,q3⟩;have hq3:=below_trans hq q3;go_wp2_with fail;go_roundg (l.length-(j+1))
    case measure=>omega
    case rel=>
     refine ⟨j+1,_,rfl,by omega,by simp,rfl,?_,HALL,?_,hq3⟩
     ·show _=_;rw[HT.out,HSN.out];simp only[ByteArray.data_append,Array.toList_append,hu.out,hst.out,List.append_assoc]
     ·rw[ByteArray.size_append,ByteArray.size_append];show u.size+S.size+1≤_;omega
  ·have d1:decide ((j:Int)<(l.length:Int))=false:=decide_eq_false (by omega);have e1:l.take j=l:=List.take_of_length_le (by omega);rw[e1]at hu hall;have hX:=HX.out.trans (if_pos (List.all_eq_true.2 hall.out));have hf:fitsS (rtextsS l)=((splitR u.data.toList).2.2==0):=by rw[hu.out];rfl
   rw[hf,←hu.out]at hX;have HX2:=Lib.hid hX;clear hX hf e1 hu hall HX;go_wp2_with fail;refine (rsplit_any u _).mono ?_;rintro e w3 h3;obtain ⟨A3,c3,rfl,hA3,q3⟩:=h3.rd;clear h3 hA3;have hq3:=below_trans hq q3;generalize splitR u.data.toList=r at*;obtain ⟨tl,p,er⟩:=r;dsimp only at*;by_cases he:er=0
   ·subst he;go_wp2_with fail;refine bodyPost_ret (v:= .tuple #[.string u,.int .i64 0]) (by simp[results,Tryz.results11,go_sem]) rfl ⟨?_,hq3⟩;rw[HX2.out];show _=Ending.returned (.tuple #[.string ⟨u.data.toList.toArray⟩,.int .i64 0]);rw[←ext_eta u]
   ·have he1:(er !=0)=true:=ne_bool he;have HZ:=Lib.hid (HX2.out.trans (if_neg (show ¬(er==0)=true by simp[he])));clear he;go_wp2_with fail;refine bodyPost_ret (v:=TEV ([],3)) (by simp[results,Tryz.results11,go_sem,TEV]) rfl ⟨by rw[HZ.out],hq3⟩
theorem showTexts_use (w:World) (hE:Env w) (A:Option Addr) (l:List It) (c:Nat) (ha:(layI 28 50).row.P (fun _=>True) w (.slice A l.length c) l) (hr:∀x∈l,RngI x):Calls Tryz.prog 3 #[.slice A l.length c] w fun e w'=>e= .returned (.bool true)∧Below w.heap.size w w':=by
 have HR:=Lib.hid hr;have HA0:=Lib.hid ha;clear hr ha;go_enter Tryz.func3,Tryz.ntmps3;go_wp2_with fail;refine (alive7_any w hE).mono ?_;rintro e w1 ⟨rfl,q1⟩;go_wp2_with fail;go_loopg [12] l.length (fun k a wr=>∃(j:Nat),k=l.length-j∧j≤l.length∧j≤100∧a= .int .i64 (j:Nat)∧(∀y∈l.take j,FewP y)∧Below w.heap.size w wr)
 case atStart=>exact ⟨0,rfl,Nat.zero_le _,Nat.zero_le _,rfl,(by intro y hy;cases hy),q1⟩
 case round=>
  obtain ⟨j,hk,hj,hj1,rfl,hall,hbl⟩:=hrel;by_cases hlt:j<l.length
  ·have d1:decide ((j:Int)<(l.length:Int))=true:=decide_eq_true (by omega);by_cases h100:100≤j
   ·have d2:decide ((100:Int)≤(j:Int))=true:=decide_eq_true (by omega);clear hall;go_wp2_with fail;go_ret;exact ⟨rfl,hbl⟩
   ·have d2:decide ((100:Int)≤(j:Int))=false:=decide_eq_false (by omega);obtain ⟨b,o,hA,hb1,hc⟩:=row_it (Dt.below _ HA0.out hbl (Nat.le_refl _)) (lt_ne hlt);obtain ⟨f0,f1,f2,f4,f5,f7,⟨A3,n3,f3,-⟩,A6,n6,f6,hxv⟩:=hc j hlt;subst hA;have HA:=Lib.hid hall;have HT:=Lib.hid (take_snoc hlt);have HFW:=Lib.hid (few_any l[j] A3 n3 A6 n6 wr hxv);clear hc hall hxv;generalize l[j]=x at*;have HX:Hid (FewP x→∀y∈l.take (j+1),FewP y):=by
     intro hx;rw[HT.out];intro y hy;rcases List.mem_append.1 hy with hy|hy
     ·exact HA.out y hy
     ·rw[List.mem_singleton.1 hy];exact hx
    obtain ⟨xk,xn,xb,xd,xz,xo,xv,xa⟩:=x;dsimp only at f0 f1 f2 f3 f4 f5 f6 f7 HFW;go_wp2_with fail;refine (HFW.out).mono ?_;rintro e w2 ⟨⟨r,rfl,hrf⟩,q2⟩;have hbl2:=below_trans hbl q2;clear f0 f1 f2 f3 f4 f5 f6 f7 HFW;cases r with
    |false=>
     go_wp2_with fail;go_ret;exact ⟨rfl,hbl2⟩
    |true=>
     have HX2:=Lib.hid (HX.out (hrf rfl));clear hrf;go_wp2_with fail;go_roundg (l.length-(j+1))
     case measure=>omega
     case rel=>exact ⟨j+1,rfl,by omega,by omega,by simp,HX2.out,hbl2⟩
  ·have d1:decide ((j:Int)<(l.length:Int))=false:=decide_eq_false (by omega);have e1:l.take j=l:=List.take_of_length_le (by omega);rw[e1]at hall;have hE1:=hE.below hbl;have hl100:l.length≤100:=by omega
   go_wp2_with fail;refine (all_show A c l w _ hE1 HA0.out hbl HR.out (by omega) hall).mono ?_;rintro e w2 ⟨⟨B,d,rfl,ho2,hsh⟩,q2⟩;have hb2:=below_trans hbl q2;have HSH:=Lib.hid hsh;have hTT:=fun (w':World) (q:Below w.heap.size w w')=>h7texts_any A c l w' (hE.below q) (Dt.below _ HA0.out q (Nat.le_refl _)) HR.out hall hl100;rw[rshow_eq HR.out hall]at hTT;have HTT:=Lib.hid hTT;clear hsh ho2 hall hTT;generalize showL (l.map It.flat)=r at*;generalize (l.map It.flat).length=n at*;obtain ⟨t,er⟩:=r;dsimp only[TEV]at*;generalize (⟨t.toArray⟩:ByteArray)=S at*;go_wp2_with fail;refine (HSH.out).mono ?_;rintro e w3 ⟨rfl,q3⟩;have hb3:=below_trans hb2 q3;clear HSH;go_wp2_with fail;refine (HTT.out _ hb3).mono ?_;rintro e w4 ⟨rfl,q4⟩;have hb4:=below_trans hb3 q4;go_wp2_with fail;go_ret;exact ⟨rfl,hb4⟩
end Go.Proofs.YtpfhgkielakmoaaGreatDoor

import Derived.Test.YtpfhgkielakmoaaGreatDoorYp
import Derived.Test.YtpfhgkielakmoaaGreatDoorPn
set_option maxHeartbeats 8000000
set_option maxRecDepth 100000
set_option linter.unusedSimpArgs false
set_option linter.unusedVariables false
namespace Go.Proofs.YtpfhgkielakmoaaGreatDoor
open Go.RowKit Num Go.Joins
theorem rdom_one {x:It} {r:Int×Int} (hb:x.bool=false) (h:x.dom=[r]):rdomS x=Lib.itoa r.1++(46::46::Lib.itoa r.2):=by
 unfold rdomS;rw[if_neg (by rw[hb];decide),h]
theorem rdom_many {x:It} (hb:x.bool=false) (h:x.dom.length≠1):rdomS x=123::(Lib.join (x.dom.map fun r=>Lib.itoa r.1) [44,32]++[125]):=by
 unfold rdomS;rw[if_neg (by rw[hb];decide)];split
 ·rename_i r hr;rw[hr]at h;exact absurd rfl h
 ·rfl
theorem rdom_len {x:It} (hr:∀r∈x.dom,I64 r.1∧I64 r.2) (hd:x.dom.length≤300):(rdomS x).length≤7000:=by
 cases hb:x.bool with
 |true=>
  unfold rdomS;rw[if_pos hb];decide
 |false=>
  by_cases h1:x.dom.length=1
  ·obtain ⟨r,h⟩:=List.length_eq_one_iff.1 h1;rw[rdom_one hb h];obtain ⟨r1,r2⟩:=hr r (by rw[h];exact List.mem_cons_self);have l1:=itoa_len r1;have l2:=itoa_len r2;simp only[List.length_append,List.length_cons];omega
  ·rw[rdom_many hb h1];have:=joinC_len 21 (x.dom.map fun r=>Lib.itoa r.1) (fun t ht=>by
    obtain ⟨y,hy,rfl⟩:=List.mem_map.1 ht;exact itoa_len (hr y hy).1)
   rw[List.length_map]at this;rw[List.length_cons,List.length_append];show _+1+1≤_;omega
theorem h7dom_any {F:Nat→Prop} (k:Int) (nm:ByteArray) (b:Bool) (dm:List (Int×Int)) (n3:Nat) (A3:Option Addr) (sz:Int) (o:Bool) (vs n6:Nat) (A6:Option Addr) (ak:Int) (w:World) (hE:Env w) (hr:∀r∈dm,I64 r.1∧I64 r.2) (hd:dm.length≤300) (ha:layR.row.P F w (.slice A3 dm.length n3) dm) (x:It) (hxb:x.bool=b) (hxd:x.dom=dm):Calls Tryz.prog 97 #[.agg #[.int .i64 k,.string nm,.bool b,.slice A3 dm.length n3,.int .i64 sz,.bool o,.slice A6 vs n6,.int .i64 ak]] w fun e w'=>e= .returned (.string ⟨(rdomS x).toArray⟩)∧Below w.heap.size w w':=by
 have q0:=below_alloc1 w (.cells #[.int .i64 k,.string nm,.bool b,.slice A3 dm.length n3,.int .i64 sz,.bool o,.slice A6 vs n6,.int .i64 ak] 28);have hE1:=hE.below q0;cases b with
 |true=>
  have HF:=Lib.hid (show rdomS x=wBool by unfold rdomS;rw[if_pos hxb]);clear hr ha hxd hxb hd;generalize dm.length=d at*;go_enter Tryz.func97,Tryz.ntmps97;go_wp2_with fail;go_ret;exact ⟨by rw[HF.out];rfl,q0⟩
 |false=>
  by_cases h1:dm.length=1
  ·obtain ⟨r,rfl⟩:=List.length_eq_one_iff.1 h1;have HF:=Lib.hid (rdom_one hxb hxd);obtain ⟨rb,ro,hA,hv3,hc⟩:=row_rg ha (by simp);obtain ⟨c1,c2⟩:=hc 0 (by simp);rw[Nat.zero_mul,Nat.add_zero]at c1 c2;have C1:=Lib.hid c1;have C2:=Lib.hid c2;subst hA;obtain ⟨hr1,hr2⟩:=hr r List.mem_cons_self;clear h1 hxd hxb ha hc hr c1 c2 hd;have HN1:=Lib.hid (fun (w':World) (hE':Env w')=>h7num_any r.1 hr1 w' hE');have HN2:=Lib.hid (fun (w':World) (hE':Env w')=>h7num_any r.2 hr2 w' hE');have l1:=itoa_len hr1;have l2:=itoa_len hr2;obtain ⟨r1,r2⟩:=r;dsimp only at*;have hX:((⟨(Lib.itoa r1).toArray⟩:ByteArray)++⟨#[46,46]⟩++⟨(Lib.itoa r2).toArray⟩)=⟨(Lib.itoa r1++(46::46::Lib.itoa r2)).toArray⟩:=by
    apply ByteArray.ext;simp
   have HX:=Lib.hid hX;have s1:(⟨(Lib.itoa r1).toArray⟩:ByteArray).size≤21:=l1;have s2:(⟨(Lib.itoa r2).toArray⟩:ByteArray).size≤21:=l2;generalize (⟨(Lib.itoa r1).toArray⟩:ByteArray)=X1 at*;generalize (⟨(Lib.itoa r2).toArray⟩:ByteArray)=X2 at*;have hz1:Hid (¬9223372036854775807<X1.size+2):=by show ¬_;omega
   have hz2:Hid (¬9223372036854775807<X1.size+2+X2.size):=by show ¬_;omega
   clear hX l1 l2 s1 s2 hE1 q0;have M:Mem w (w.alloc (.cells #[.int .i64 k,.string nm,.bool false,.slice (some ⟨rb,ro,none⟩) 1 n3,.int .i64 sz,.bool o,.slice A6 vs n6,.int .i64 ak] 28)) [(w.heap.size,28,#[.int .i64 k,.string nm,.bool false,.slice (some ⟨rb,ro,none⟩) 1 n3,.int .i64 sz,.bool o,.slice A6 vs n6,.int .i64 ak])] []:=(Mem.start w).new 28 _;show Calls Tryz.prog 97 #[.agg #[.int .i64 k,.string nm,.bool false,.slice (some ⟨rb,ro,none⟩) 1 n3,.int .i64 sz,.bool o,.slice A6 vs n6,.int .i64 ak]] w _;go_enter Tryz.func97,Tryz.ntmps97;go_upto_region 4 with fail;refine region_st (n:=15) (frame:= ?frame1) (fun jK=>[.val (.fix (.pointer (some ⟨w.heap.size,3,none⟩))),.val (.fix (.slice (some ⟨rb,ro,none⟩) 1 n3)),.val (.fix (.pointer (some ⟨rb,ro,none⟩))),.val (.fix (.pointer (some ⟨rb,ro,none⟩))),.val (.fix (.int .i64 r1)),.val (.fix (.string X1)),.val (.fix (.string (X1++⟨#[46,46]⟩))),.val (.fix (.pointer (some ⟨w.heap.size,3,none⟩))),.val (.fix (.slice (some ⟨rb,ro,none⟩) 1 n3)),.val (.fix (.pointer (some ⟨rb,ro,none⟩))),.val (.fix (.pointer (some ⟨rb,ro+1,none⟩))),.val (.fix (.int .i64 r2)),.val (.fix (.string X2)),.val (.fix (.string (X1++⟨#[46,46]⟩++X2))),.val (.fix (.string (X1++⟨#[46,46]⟩++X2)))].getD jK .none) [] (by kernel_rfl) (by kernel_rfl) (by kernel_rfl) rfl M (fun _ h=>by cases h) (fun _ h=>by cases h) ?_ ?_ ?_
   case refine_1=>
    intro s;simp only[fr,Act.put,List.append_eq,List.cons_append,List.nil_append,List.setIfInBounds_toArray,List.set_cons_zero,List.set_cons_succ,Nat.reduceAdd];rfl
   case refine_2=>
    refine SC 0 1 rfl ?_ (SC 1 2 rfl ?_ (SC 2 3 rfl ?_ (SC 3 4 rfl ?_ (SC 4 5 rfl ?_ (SC 5 6 rfl ?_ (SC 6 7 rfl ?_ (SC 7 8 rfl ?_ (SC 8 9 rfl ?_ (SC 9 10 rfl ?_ (SC 10 11 rfl ?_ (SC 11 12 rfl ?_ (SC 12 13 rfl ?_ (SC 13 14 rfl ?_ (SC 14 15 rfl ?_ Steps.nil))))))))))))));all_goals (intro L s w9 hN hU hi hS K hK;dsimp only at hK⊢;simp only[Act.put,List.setIfInBounds_toArray,List.set_cons_zero,List.set_cons_succ]at hK)
    ·go_simp;exact hK.out _ _ (hS.v0 rfl rfl rfl)
    ·have e0:=hS.fx 0 rfl rfl (hN.out 0 rfl);simp only[e0]at hK⊢;obtain ⟨u1,u2,u3,u4,u5,u6,u7,u8⟩:=Blk.eight (hS.mem.k (i:=0) rfl);go_simp;exact hK.out _ _ (hS.v0 rfl rfl rfl)
    ·have e1:=hS.fx 1 rfl rfl (hN.out 1 rfl);simp only[e1]at hK⊢;go_simp;exact hK.out _ _ (hS.v0 rfl rfl rfl)
    ·have e2:=hS.fx 2 rfl rfl (hN.out 2 rfl);simp only[e2]at hK⊢;go_simp;exact hK.out _ _ (hS.v0 rfl rfl rfl)
    ·have e3:=hS.fx 3 rfl rfl (hN.out 3 rfl);simp only[e3]at hK⊢;have z1:=(hS.mem.bel.cell (p:=⟨rb,ro,none⟩) hv3).trans C1.out;go_simp;exact hK.out _ _ (hS.v0 rfl rfl rfl)
    ·have e4:=hS.fx 4 rfl rfl (hN.out 4 rfl);simp only[e4]at hK⊢;go_simp;go_at_call 98;refine (HN1.out _ (hE.below hS.mem.bel)).mono ?_;rintro e9 w10 ⟨rfl,q⟩;exact hK.out _ _ (hS.val rfl (noStore_of rfl) q rfl)
    ·have e5:=hS.fx 5 rfl rfl (hN.out 5 rfl);simp only[e5]at hK⊢;have z1:=hz1.out;go_simp;exact hK.out _ _ (hS.v0 rfl rfl rfl)
    ·go_simp;exact hK.out _ _ (hS.v0 rfl rfl rfl)
    ·have e7:=hS.fx 7 rfl rfl (hN.out 7 rfl);simp only[e7]at hK⊢;obtain ⟨u1,u2,u3,u4,u5,u6,u7,u8⟩:=Blk.eight (hS.mem.k (i:=0) rfl);go_simp;exact hK.out _ _ (hS.v0 rfl rfl rfl)
    ·have e8:=hS.fx 8 rfl rfl (hN.out 8 rfl);simp only[e8]at hK⊢;go_simp;exact hK.out _ _ (hS.v0 rfl rfl rfl)
    ·have e9:=hS.fx 9 rfl rfl (hN.out 9 rfl);simp only[e9]at hK⊢;go_simp;exact hK.out _ _ (hS.v0 rfl rfl rfl)
    ·have e10:=hS.fx 10 rfl rfl (hN.out 10 rfl);simp only[e10]at hK⊢;have z1:=(hS.mem.bel.cell (p:=⟨rb,ro+1,none⟩) hv3).trans C2.out;go_simp;exact hK.out _ _ (hS.v0 rfl rfl rfl)
    ·have e11:=hS.fx 11 rfl rfl (hN.out 11 rfl);simp only[e11]at hK⊢;go_simp;go_at_call 98;refine (HN2.out _ (hE.below hS.mem.bel)).mono ?_;rintro e9 w10 ⟨rfl,q⟩;exact hK.out _ _ (hS.val rfl (noStore_of rfl) q rfl)
    ·have e6:=hS.fx 6 rfl rfl (hN.out 6 rfl);simp only[e6]at hK⊢;have e12:=hS.fx 12 rfl rfl (hN.out 12 rfl);simp only[e12]at hK⊢;have z1:=hz2.out;go_simp;exact hK.out _ _ (hS.v0 rfl rfl rfl)
    ·have e13:=hS.fx 13 rfl rfl (hN.out 13 rfl);simp only[e13]at hK⊢;go_simp;exact hK.out _ _ (hS.v0 rfl rfl rfl)
   intro L s w9 hall hS;have eS:s 14= .string (X1++⟨#[46,46]⟩++X2):=hS.val_at 14 rfl (by decide) (hall 14 (by decide));go_wp2;refine bodyPost_ret (v:= .string (X1++⟨#[46,46]⟩++X2)) (by simp[results,Tryz.results97,go_sem,eS]) rfl ⟨?_,hS.mem.bel⟩;rw[HX.out,HF.out]
  ·have d1:((dm.length:Int)==1)=false:=by simp;omega
   have HF:=Lib.hid (rdom_many hxb (by rw[hxd];exact h1));rw[hxd]at HF;have HR:=Lib.hid hr;have M:Mem w (w.alloc (.cells #[.int .i64 k,.string nm,.bool false,.slice A3 dm.length n3,.int .i64 sz,.bool o,.slice A6 vs n6,.int .i64 ak] 28)) [(w.heap.size,28,#[.int .i64 k,.string nm,.bool false,.slice A3 dm.length n3,.int .i64 sz,.bool o,.slice A6 vs n6,.int .i64 ak])] []:=(Mem.start w).new 28 _;clear h1 hr hxb hxd hE1 q0;go_enter Tryz.func97,Tryz.ntmps97;go_wp2_with fail;go_loopg [3,4] dm.length (fun k' v a wr=>∃j u,k'=dm.length-j∧j≤dm.length∧a= .int .i64 (j:Nat)∧v= .string u∧Hid (u.data.toList=123::Lib.join ((dm.take j).map fun r=>Lib.itoa r.1) [44,32])∧u.size≤1+23*j∧Mem w wr [(w.heap.size,28,#[.int .i64 k,.string nm,.bool false,.slice A3 dm.length n3,.int .i64 sz,.bool o,.slice A6 vs n6,.int .i64 ak])] [])
   case atStart=>exact ⟨0,⟨#[123]⟩,rfl,Nat.zero_le _,rfl,rfl,rfl,by decide,M⟩
   case round=>
    clear M;obtain ⟨j,u,hk,hj,rfl,rfl,hu,hus,M⟩:=hrel;obtain ⟨m1,m2,m3,m4,m5,m6,m7,m8⟩:=Blk.eight (M.k (i:=0) rfl);by_cases hlt:j<dm.length
    ·have d2:decide ((j:Int)<(dm.length:Int))=true:=decide_eq_true (by omega);obtain ⟨rb,ro,hA,hv3,hc⟩:=row_rg (Dt.below _ ha M.bel (Nat.le_refl _)) (by intro e;rw[e]at hlt;cases hlt);obtain ⟨c1,-⟩:=hc j hlt;clear hc;obtain ⟨hr1,-⟩:=HR.out _ (List.getElem_mem hlt);have hj0:=joinC_snoc ((dm.take j).map fun r=>Lib.itoa r.1) (Lib.itoa dm[j].1);have htk:((dm.take (j+1)).map fun r=>Lib.itoa r.1)=((dm.take j).map fun r=>Lib.itoa r.1)++[Lib.itoa dm[j].1]:=by rw[List.take_succ_eq_append_getElem hlt,List.map_append];rfl
     rw[←htk]at hj0;have HJ:=Lib.hid hj0;have l1:=itoa_len hr1;clear hj0 htk;generalize dm[j].1=r1 at*;have HN:=Lib.hid (fun (w':World) (hE':Env w')=>h7num_any r1 hr1 w' hE');have s1:(⟨(Lib.itoa r1).toArray⟩:ByteArray).size≤21:=l1;have ht:(⟨(Lib.itoa r1).toArray⟩:ByteArray).data.toList=Lib.itoa r1:=rfl;generalize (⟨(Lib.itoa r1).toArray⟩:ByteArray)=t at*;have HT:=Lib.hid ht;have hb:=hE.below M.bel;clear l1 ht hr1;by_cases h0:0<j
     ·rw[hA]at m4;clear hA;go_wp2_with fail;refine (HN.out _ hb).mono ?_;rintro e w3 ⟨rfl,q3⟩;go_wp2_with fail;go_roundg (dm.length-(j+1))
      case measure=>omega
      case rel=>
       refine ⟨j+1,_,rfl,by omega,by simp,rfl,?_,?_,M.below q3⟩
       ·show _=_;rw[HJ.out,if_neg (by intro e;rw[List.map_eq_nil_iff,List.take_eq_nil_iff]at e;rcases e with e|e;omega;rw[e]at hlt;simp at hlt)];have e1:(u++(⟨#[44,32]⟩:ByteArray)++t).data.toList=u.data.toList++([44,32]++t.data.toList):=by simp[ByteArray.data_append]
        rw[e1,hu.out,HT.out];rfl
       ·have e1:(u++(⟨#[44,32]⟩:ByteArray)++t).size=u.size+2+t.size:=by rw[ByteArray.size_append,ByteArray.size_append];rfl
        rw[e1];omega
     ·rw[hA]at m4;clear hA;go_wp2_with fail;refine (HN.out _ hb).mono ?_;rintro e w3 ⟨rfl,q3⟩;go_wp2_with fail;go_roundg (dm.length-(j+1))
      case measure=>omega
      case rel=>
       refine ⟨j+1,_,rfl,by omega,by simp,rfl,?_,?_,M.below q3⟩
       ·show _=_;obtain rfl:j=0:=by omega
        have hu0:=hu.out;rw[HJ.out,if_pos (by simp)];have e1:(u++t).data.toList=u.data.toList++t.data.toList:=by simp[ByteArray.data_append]
        rw[e1,hu0,HT.out];simp[Lib.join,List.intercalate]
       ·rw[ByteArray.size_append];omega
    ·have d2:decide ((j:Int)<(dm.length:Int))=false:=decide_eq_false (by omega);have e1:u++(⟨#[125]⟩:ByteArray)=⟨(123::(Lib.join (dm.map fun r=>Lib.itoa r.1) [44,32]++[125])).toArray⟩:=by
      have h1:=hu.out;rw[List.take_of_length_le (by omega)]at h1;apply ByteArray.ext;rw[ByteArray.data_append];apply Array.toList_inj.1;rw[Array.toList_append,h1];rfl
     have E1:=Lib.hid e1;clear e1 hu;go_wp2_with fail;refine bodyPost_ret (v:= .string (u++⟨#[125]⟩)) (by simp[results,Tryz.results97,go_sem]) rfl ⟨?_,M.bel⟩;rw[E1.out,HF.out]
theorem rvar_eq (k:Int) (nm:List UInt8) (b:Bool) (dm:List (Int×Int)) (sz:Int) (o:Bool) (vs:List Ex) (ak:Int):rvarS ⟨k,nm,b,dm,sz,o,vs,ak⟩=[118,97,114,32]++rdomS ⟨k,nm,b,dm,sz,o,vs,ak⟩++[58,32]++nm++(if o then [32,58,58,32]++wOutVar else [])++(match vs with
 |[]=>[]
 |y::_=>[32,61,32]++rplainS y.low)++[59]:=rfl
theorem h7var_any {F G:Nat→Prop} (k:Int) (nm:List UInt8) (b:Bool) (dm:List (Int×Int)) (n3:Nat) (A3:Option Addr) (sz:Int) (o:Bool) (vs:List Ex) (n6:Nat) (A6:Option Addr) (ak:Int) (w:World) (hE:Env w) (hnm:nm.length≤100) (hr:∀r∈dm,I64 r.1∧I64 r.2) (hd:dm.length≤300) (hv:∀y∈vs,RngE y∧y.s.length≤100) (hda:layR.row.P G w (.slice A3 dm.length n3) dm) (ha:(layE 50).row.P F w (.slice A6 vs.length n6) vs):Calls Tryz.prog 52 #[.agg #[.int .i64 k,.string ⟨nm.toArray⟩,.bool b,.slice A3 dm.length n3,.int .i64 sz,.bool o,.slice A6 vs.length n6,.int .i64 ak]] w fun e w'=>e= .returned (.string ⟨(rvarS ⟨k,nm,b,dm,sz,o,vs,ak⟩).toArray⟩)∧Below w.heap.size w w':=by
 have HF:=Lib.hid (rvar_eq k nm b dm sz o vs ak);have HD:=Lib.hid (fun (w':World) (q:Below w.heap.size w w')=>h7dom_any k ⟨nm.toArray⟩ b dm n3 A3 sz o vs.length n6 A6 ak w' (hE.below q) hr hd (Dt.below _ hda q (Nat.le_refl _)) ⟨k,nm,b,dm,sz,o,vs,ak⟩ rfl rfl);have hdl:=rdom_len (x:=⟨k,nm,b,dm,sz,o,vs,ak⟩) hr hd;have HA:=Lib.hid ha;have HV:=Lib.hid hv;obtain ⟨D,hD⟩:∃D,rdomS ⟨k,nm,b,dm,sz,o,vs,ak⟩=D:=⟨_,rfl⟩;rw[hD]at HF HD hdl;clear hD hr hd hv hda ha;generalize dm.length=d at*;have hNt:(⟨nm.toArray⟩:ByteArray).data.toList=nm:=rfl;have hDt:(⟨D.toArray⟩:ByteArray).data.toList=D:=rfl;have hNl:(⟨nm.toArray⟩:ByteArray).size≤100:=hnm;have hDl:(⟨D.toArray⟩:ByteArray).size≤7000:=hdl;generalize (⟨nm.toArray⟩:ByteArray)=N at*;generalize (⟨D.toArray⟩:ByteArray)=DB at*;have HN:=Lib.hid hNt;have HDt:=Lib.hid hDt;have hz1:Hid (¬9223372036854775807<4+DB.size):=by show ¬_;omega
 have hz2:Hid (¬9223372036854775807<4+DB.size+2):=by show ¬_;omega
 have hz3:Hid (¬9223372036854775807<4+DB.size+2+N.size):=by show ¬_;omega
 have hS1:Hid (((⟨#[118,97,114,32]⟩:ByteArray)++DB++⟨#[58,32]⟩++N).data.toList=[118,97,114,32]++D++[58,32]++nm):=by
  show _=_;simp only[ByteArray.data_append,Array.toList_append,hNt,hDt]
 have hSz:((⟨#[118,97,114,32]⟩:ByteArray)++DB++⟨#[58,32]⟩++N).size≤7200:=by
  rw[ByteArray.size_append,ByteArray.size_append,ByteArray.size_append];show 4+_+2+_≤_;omega
 have M:Mem w (w.alloc (.cells #[.int .i64 k,.string N,.bool b,.slice A3 d n3,.int .i64 sz,.bool o,.slice A6 vs.length n6,.int .i64 ak] 28)) [(w.heap.size,28,#[.int .i64 k,.string N,.bool b,.slice A3 d n3,.int .i64 sz,.bool o,.slice A6 vs.length n6,.int .i64 ak])] []:=(Mem.start w).new 28 _;clear hNt hDt hNl hDl hdl hnm;go_enter Tryz.func52,Tryz.ntmps52;go_upto_region 1 with fail;refine region_gen0 (n:=8) (frame:= ?frame2) (fun L s w'=>(L 0=true→s 0= .agg #[.int .i64 k,.string N,.bool b,.slice A3 d n3,.int .i64 sz,.bool o,.slice A6 vs.length n6,.int .i64 ak])∧(L 1=true→s 1= .string DB)∧(L 2=true→s 2= .string (⟨#[118,97,114,32]⟩++DB))∧(L 3=true→s 3= .string (⟨#[118,97,114,32]⟩++DB++⟨#[58,32]⟩))∧(L 4=true→s 4= .pointer (some ⟨w.heap.size,1,none⟩))∧(L 5=true→s 5= .string N)∧(L 6=true→s 6= .string (⟨#[118,97,114,32]⟩++DB++⟨#[58,32]⟩++N))∧(L 7=true→s 7= .string (⟨#[118,97,114,32]⟩++DB++⟨#[58,32]⟩++N))∧(L 7=false→s 7=undef)∧Mem w w' [(w.heap.size,28,#[.int .i64 k,.string N,.bool b,.slice A3 d n3,.int .i64 sz,.bool o,.slice A6 vs.length n6,.int .i64 ak])] []) (by kernel_rfl) (by kernel_rfl) (by kernel_rfl) rfl ?_ ?_ ?_ ?_
 case refine_1=>exact ⟨fun h=>no_f h,fun h=>no_f h,fun h=>no_f h,fun h=>no_f h,fun h=>no_f h,fun h=>no_f h,fun h=>no_f h,fun h=>no_f h,fun _=>rfl,(M).drew⟩
 case refine_2=>
  intro s;simp only[fr,Act.put,List.append_eq,List.cons_append,List.nil_append,List.setIfInBounds_toArray,List.set_cons_zero,List.set_cons_succ,Nat.reduceAdd];rfl
 case refine_3=>
  refine SC 0 1 rfl ?_ (SC 1 2 rfl ?_ (SC 2 3 rfl ?_ (SC 3 4 rfl ?_ (SC 4 5 rfl ?_ (SC 5 6 rfl ?_ (SC 6 7 rfl ?_ (SC 7 8 rfl ?_ Steps.nil)))))));all_goals (intro L s w9 hN hU hi hC hS K hK;dsimp only at hK⊢;simp only[Act.put,List.setIfInBounds_toArray,List.set_cons_zero,List.set_cons_succ]at hK;obtain ⟨h_0,h_1,h_2,h_3,h_4,h_5,h_6,h_7,h_1007,hM⟩:=hS;refine ite_of rfl ?_)
  ·obtain ⟨u1,u2,u3,u4,u5,u6,u7,u8⟩:=Blk.eight (hM.k (i:=0) rfl);go_simp;refine hK.out _ _ ?_;exact ⟨fun _=>rfl,h_1,h_2,h_3,h_4,h_5,h_6,h_7,h_1007,hM⟩
  ·have e_0:=h_0 (hN.out 0 rfl);simp only[e_0]at hK⊢;go_simp;go_at_call 97;refine (HD.out _ hM.bel).mono ?_;rintro e9 w10 ⟨rfl,q⟩;refine hK.out _ _ ?_;exact ⟨h_0,fun _=>rfl,h_2,h_3,h_4,h_5,h_6,h_7,h_1007,hM.below q⟩
  ·have e_1:=h_1 (hN.out 1 rfl);simp only[e_1]at hK⊢;have z1:=hz1.out;go_simp;refine hK.out _ _ ?_;exact ⟨h_0,h_1,fun _=>rfl,h_3,h_4,h_5,h_6,h_7,h_1007,hM⟩
  ·have e_2:=h_2 (hN.out 2 rfl);simp only[e_2]at hK⊢;have z1:=hz2.out;go_simp;refine hK.out _ _ ?_;exact ⟨h_0,h_1,h_2,fun _=>rfl,h_4,h_5,h_6,h_7,h_1007,hM⟩
  ·go_simp;refine hK.out _ _ ?_;exact ⟨h_0,h_1,h_2,h_3,fun _=>rfl,h_5,h_6,h_7,h_1007,hM⟩
  ·have e_4:=h_4 (hN.out 4 rfl);simp only[e_4]at hK⊢;obtain ⟨u1,u2,u3,u4,u5,u6,u7,u8⟩:=Blk.eight (hM.k (i:=0) rfl);go_simp;refine hK.out _ _ ?_;exact ⟨h_0,h_1,h_2,h_3,h_4,fun _=>rfl,h_6,h_7,h_1007,hM⟩
  ·have e_3:=h_3 (hN.out 3 rfl);simp only[e_3]at hK⊢;have e_5:=h_5 (hN.out 5 rfl);simp only[e_5]at hK⊢;have z1:=hz3.out;go_simp;refine hK.out _ _ ?_;exact ⟨h_0,h_1,h_2,h_3,h_4,h_5,fun _=>rfl,h_7,h_1007,hM⟩
  ·have e_6:=h_6 (hN.out 6 rfl);simp only[e_6]at hK⊢;go_simp;refine hK.out _ _ ?_;exact ⟨h_0,h_1,h_2,h_3,h_4,h_5,h_6,fun _=>rfl,fun h=>no_t h,hM⟩
 intro L s w9 hall hS;obtain ⟨h_0,h_1,h_2,h_3,h_4,h_5,h_6,h_7,h_1007,hM⟩:=hS;have e9_7:=h_7 (hall 7 (by decide));clear hall h_0 h_1 h_2 h_3 h_4 h_5 h_6 h_7 h_1007;clear M;generalize (⟨#[118,97,114,32]⟩:ByteArray)++DB++⟨#[58,32]⟩++N=S1 at*;obtain ⟨m1,m2,m3,m4,m5,m6,m7,m8⟩:=Blk.eight (hM.k (i:=0) rfl);have hfin:∀(S:ByteArray) (T:List UInt8),S.data.toList=T→(S++(⟨#[59]⟩:ByteArray))=⟨(T++[59]).toArray⟩:=fun S T h=>by
  apply ByteArray.ext;rw[ByteArray.data_append];apply Array.toList_inj.1;rw[Array.toList_append,h]
 have HFIN:=Lib.hid hfin;clear hfin;cases vs with
 |nil=>
  cases o with
  |true=>
   go_wp2_with fail;refine bodyPost_ret (v:= .string (S1++⟨#[32,58,58,32,111,117,116,112,117,116,95,118,97,114]⟩++⟨#[59]⟩)) (by simp[results,Tryz.results52,go_sem]) rfl ⟨?_,hM.bel⟩;rw[HFIN.out _ _ (show (S1++(⟨#[32,58,58,32,111,117,116,112,117,116,95,118,97,114]⟩:ByteArray)).data.toList=[118,97,114,32]++D++[58,32]++nm++([32,58,58,32]++wOutVar) by simp only[ByteArray.data_append,Array.toList_append,hS1.out];rfl),HF.out];simp only[if_true,List.append_nil]
  |false=>
   go_wp2_with fail;refine bodyPost_ret (v:= .string (S1++⟨#[59]⟩)) (by simp[results,Tryz.results52,go_sem]) rfl ⟨?_,hM.bel⟩;rw[HFIN.out _ _ hS1.out,HF.out];simp only[Bool.false_eq_true,if_false,List.append_nil]
 |cons y r=>
  obtain ⟨vb,vo,hA,hv3,hc⟩:=row_ex (Dt.below _ HA.out hM.bel (Nat.le_refl _)) (by simp);obtain ⟨c1,c2,c3,A4,n4,c4,-⟩:=hc 0 (by simp);rw[Nat.zero_mul,Nat.add_zero]at c1 c2 c3 c4;clear hc;subst hA;replace c1:_=some (Value.int .i64 y.k):=c1;replace c2:_=some (Value.int .i64 y.n):=c2;replace c3:_=some (Value.string ⟨y.s.toArray⟩):=c3;replace c4:_=some (Value.slice A4 y.l.length n4):=c4;obtain ⟨hv1,hv2⟩:=HV.out y List.mem_cons_self;have HP:=Lib.hid (fun (w':World) (hE':Env w')=>h7plain_any y.k y.n y.s y.l.length n4 A4 hv1.1 w' hE');have hln:=rplain_len (y:=y.low) hv1.1 hv2;have hPs:(⟨(rplainS y.low).toArray⟩:ByteArray).size≤100:=hln;have hPt:(⟨(rplainS y.low).toArray⟩:ByteArray).data.toList=rplainS y.low:=rfl;have HF2:=Lib.hid (show rvarS ⟨k,nm,b,dm,sz,o,y::r,ak⟩=[118,97,114,32]++D++[58,32]++nm++(if o then [32,58,58,32]++wOutVar else [])++([32,61,32]++rplainS y.low)++[59] from HF.out);replace HP:Hid (∀w',Env w'→Calls Tryz.prog 96 #[.agg #[.int .i64 y.k,.int .i64 y.n,.string ⟨y.s.toArray⟩,.slice A4 y.l.length n4]] w' fun e w2=>e= .returned (.string ⟨(rplainS y.low).toArray⟩)∧Below w'.heap.size w' w2):=HP;generalize (⟨(rplainS y.low).toArray⟩:ByteArray)=P at*;have HPT:=Lib.hid hPt;have HEE:=Lib.hid (hE.below hM.bel);have hlen:(y::r).length=r.length+1:=rfl;generalize y.k=yk at*;generalize y.n=yn at*;generalize y.s=ys at*;generalize y.l.length=yl at*;clear hPt hln hv1 hv2 hlen;cases o with
  |true=>
   go_wp2_with fail;refine (HP.out _ HEE.out).mono ?_;rintro e w3 ⟨rfl,q3⟩;go_wp2_with fail;refine bodyPost_ret (v:= .string (S1++⟨#[32,58,58,32,111,117,116,112,117,116,95,118,97,114]⟩++⟨#[32,61,32]⟩++P++⟨#[59]⟩)) (by simp[results,Tryz.results52,go_sem]) rfl ⟨?_,below_trans hM.bel q3⟩;rw[HFIN.out _ _ (show (S1++(⟨#[32,58,58,32,111,117,116,112,117,116,95,118,97,114]⟩:ByteArray)++(⟨#[32,61,32]⟩:ByteArray)++P).data.toList=[118,97,114,32]++D++[58,32]++nm++([32,58,58,32]++wOutVar)++([32,61,32]++rplainS y.low) by simp only[ByteArray.data_append,Array.toList_append,hS1.out,HPT.out,List.append_assoc];rfl),HF2.out];simp only[if_true]
  |false=>
   go_wp2_with fail;refine (HP.out _ HEE.out).mono ?_;rintro e w3 ⟨rfl,q3⟩;go_wp2_with fail;refine bodyPost_ret (v:= .string (S1++⟨#[32,61,32]⟩++P++⟨#[59]⟩)) (by simp[results,Tryz.results52,go_sem]) rfl ⟨?_,below_trans hM.bel q3⟩;rw[HFIN.out _ _ (show (S1++(⟨#[32,61,32]⟩:ByteArray)++P).data.toList=[118,97,114,32]++D++[58,32]++nm++([32,61,32]++rplainS y.low) by simp only[ByteArray.data_append,Array.toList_append,hS1.out,HPT.out,List.append_assoc]),HF2.out];simp only[Bool.false_eq_true,if_false,List.append_nil]
end Go.Proofs.YtpfhgkielakmoaaGreatDoor

import Derived.Test.YtjlhjabgclflcaaGreatDoorCc
import Derived.Test.YtjlhjabgclflcaaGreatDoorZn
set_option maxHeartbeats 40000000
set_option maxRecDepth 100000
set_option linter.unusedSimpArgs false
set_option linter.unusedVariables false
namespace Go.Proofs.YtjlhjabgclflcaaGreatDoor
open Go.RowKit Num Go.Joins
theorem d23whole_un (A:Option Addr) (n c:Nat) (k:Int) (B:Option Addr) (m d:Nat) (w:World) (hk:k=1∨k=4):Calls Tryz.prog 18 #[.slice A n c,.agg #[.int .i64 k,.slice B m d]] w fun e w'=>e= .returned (.string ⟨(if k=1 then unsatS else unknownS).toArray⟩)∧Below w.heap.size w w':=by
 have q0:=below_alloc1 w (.cells #[.int .i64 k,.slice B m d] 63);rcases hk with rfl|rfl
 ·go_enter Tryz.func18,Tryz.ntmps18;go_wp2_with fail;refine bodyPost_ret (v:= .string (⟨unsatS.toArray⟩)) (by simp[results,Tryz.results18,go_sem];try rfl) rfl ⟨?_,?_⟩
  ·rfl
  ·exact q0
 ·go_enter Tryz.func18,Tryz.ntmps18;go_wp2_with fail;refine bodyPost_ret (v:= .string (⟨unknownS.toArray⟩)) (by simp[results,Tryz.results18,go_sem];try rfl) rfl ⟨?_,?_⟩
  ·rfl
  ·exact q0
theorem d23whole_any {F G:Nat→Prop} (A:Option Addr) (c:Nat) (l:List Ot) (k:Int) (B:Option Addr) (d:Nat) (vs:List (List Int)) (w:World) (hE:Env w) (hk:k=2∨k=3) (ho:(layO 45 3).row.P F w (.slice A l.length c) l) (hv:(layV 23 2).row.P G w (.slice B vs.length d) vs) (hl:l.length≤100) (hlv:vs.length=l.length) (hp:∀p∈l.zip vs,(lineS p.1 p.2).length≤300000∧p.1.name.length≤10000∧p.2.length=p.1.x.length∧p.2.length≤10000∧RngN p.2):Calls Tryz.prog 18 #[.slice A l.length c,.agg #[.int .i64 k,.slice B vs.length d]] w fun e w'=>e= .returned (.string ⟨(linesS l vs++endS k).toArray⟩)∧Below w.heap.size w w':=by
 have HE:Hid (∀w':World,Below w.heap.size w w'→Env w'):=fun w' q=>hE.below q;have HP:=Lib.hid hp;have HLv:=Lib.hid hlv;clear hp hE hlv;rcases hk with rfl|rfl
 ·have M0:=(Mem.start w).new 63 #[.int .i64 2,.slice B vs.length d];go_enter Tryz.func18,Tryz.ntmps18;go_wp2_with fail;go_loopg [6,5] l.length (fun k p sv wr=>∃(j:Nat) (u:ByteArray),k=l.length-j∧j≤l.length∧p= .int .i64 (j:Nat)∧sv= .string u∧u.data.toList=linesG ((l.zip vs).take j)∧Mem w wr [(w.heap.size,63,#[.int .i64 2,.slice B vs.length d])] [])
  case atStart=>exact ⟨0,⟨#[]⟩,rfl,Nat.zero_le _,rfl,rfl,rfl,M0⟩
  case round=>
   clear M0;obtain ⟨j,u,hkk,hj,rfl,rfl,hu,M⟩:=hrel;have hus:u.size≤30000000:=by
    have h1:=linesG_len (l:=(l.zip vs).take j) (fun p hp=>(HP.out p (List.mem_of_mem_take hp)).1);rw[←hu]at h1;have h2:u.data.toList.length=u.size:=by simp
    have h3:((l.zip vs).take j).length≤100:=by rw[List.length_take,List.length_zip];omega
    omega
   have HU:=Lib.hid hu;clear hu;obtain ⟨m0,m1,-,-⟩:=(M.k (i:=0) rfl).both;by_cases hlt:j<l.length
   ·have d1:decide ((j:Int)<(l.length:Int))=true:=decide_eq_true (by omega);have hlt2:j<vs.length:=by rw[HLv.out];exact hlt
    obtain ⟨b,o,hA,hb1,hc⟩:=row_o ho (row_ne hlt);obtain ⟨c0,c1,c2,A3,n3,c3,-⟩:=hc j hlt;obtain ⟨b',o',hB,hb2,hc'⟩:=row_v hv (row_ne hlt2);obtain ⟨A4,n4,k0,hx⟩:=hc' j hlt2;subst hA hB;clear hc hc';have hzl:j<(l.zip vs).length:=by rw[List.length_zip,HLv.out,Nat.min_self];exact hlt
    have hz:(l.zip vs)[j]=(l[j],vs[j]):=List.getElem_zip;obtain ⟨g1,g2,g3,g4,g5⟩:=HP.out _ (List.getElem_mem hzl);have HS:=Lib.hid ((congrArg linesG (List.take_succ_eq_append_getElem hzl)).trans (linesG_snoc _ _));rw[hz]at g1 g2 g3 g4 g5 HS;have HR:=Lib.hid (fun (w':World) (q:Below w.heap.size w w')=>d23line_any l[j] vs[j] A3 n3 A4 n4 w' (HE.out w' q) g2 g3 g4 g5 (Dt.below _ hx q (Nat.le_refl _)));have hSl:(⟨(lineS l[j] vs[j]).toArray⟩:ByteArray).size≤300000:=g1;clear hz hzl hx g1 g2 g3 g4 g5;generalize l[j]=x at*;generalize vs[j]=y at*;obtain ⟨xn,xb,xa,xx⟩:=x;dsimp only at c0 c1 c2 c3 HR HS hSl;have hSt:Hid ((⟨(lineS ⟨xn,xb,xa,xx⟩ y).toArray⟩:ByteArray).data.toList=lineS ⟨xn,xb,xa,xx⟩ y):=rfl;generalize (⟨(lineS ⟨xn,xb,xa,xx⟩ y).toArray⟩:ByteArray)=S at*;have hz:Hid (¬9223372036854775807<u.size+S.size):=by show ¬_;omega
    have HJ2:Hid ((u++S).data.toList=linesG ((l.zip vs).take (j+1))):=by
     show _=_;rw[HS.out,ByteArray.data_append,Array.toList_append,HU.out,hSt.out]
    go_upto_region 10 with fail;refine region_gen0 (n:=13) (frame:= ?frame1) (fun L s w'=>(L 0=true→s 0= .string u)∧(L 1=true→s 1= .slice (some ⟨b,o,none⟩) l.length c)∧(L 2=true→s 2= .int .i64 j)∧(L 3=true→s 3= .pointer (some ⟨b,o+j*4,none⟩))∧(L 4=true→s 4= .agg #[.string ⟨xn.toArray⟩,.bool xb,.bool xa,.slice A3 xx.length n3])∧(L 5=true→s 5= .pointer (some ⟨w.heap.size,1,none⟩))∧(L 6=true→s 6= .slice (some ⟨b',o',none⟩) vs.length d)∧(L 7=true→s 7= .int .i64 j)∧(L 8=true→s 8= .pointer (some ⟨b',o'+j,none⟩))∧(L 9=true→s 9= .slice A4 y.length n4)∧(L 10=true→s 10= .string S)∧(L 11=true→s 11= .string (u++S))∧(L 12=true→s 12= .string (u++S))∧(L 12=false→s 12= .string u)∧Mem w w' [(w.heap.size,63,#[.int .i64 2,.slice (some ⟨b',o',none⟩) vs.length d])] []) (by kernel_rfl) (by kernel_rfl) (by kernel_rfl) rfl ?_ ?_ ?_ ?_
    case refine_1=>exact ⟨fun h=>no_f h,fun h=>no_f h,fun h=>no_f h,fun h=>no_f h,fun h=>no_f h,fun h=>no_f h,fun h=>no_f h,fun h=>no_f h,fun h=>no_f h,fun h=>no_f h,fun h=>no_f h,fun h=>no_f h,fun h=>no_f h,fun _=>rfl,(M).drew⟩
    case refine_2=>
     intro s;simp only[fr,Act.put,List.append_eq,List.cons_append,List.nil_append,List.setIfInBounds_toArray,List.set_cons_zero,List.set_cons_succ,Nat.reduceAdd];rfl
    case refine_3=>
     refine SC 0 1 rfl ?_ (SC 1 2 rfl ?_ (SC 2 3 rfl ?_ (SC 3 4 rfl ?_ (SC 4 5 rfl ?_ (SC 5 6 rfl ?_ (SC 6 7 rfl ?_ (SC 7 8 rfl ?_ (SC 8 9 rfl ?_ (SC 9 10 rfl ?_ (SC 10 11 rfl ?_ (SC 11 12 rfl ?_ (SC 12 13 rfl ?_ Steps.nil))))))))))));all_goals (intro L s w9 hN hU hi hC hS K hK;dsimp only at hK⊢;simp only[Act.put,List.setIfInBounds_toArray,List.set_cons_zero,List.set_cons_succ]at hK;obtain ⟨h_0,h_1,h_2,h_3,h_4,h_5,h_6,h_7,h_8,h_9,h_10,h_11,h_12,h_1012,hM⟩:=hS;refine ite_of rfl ?_)
     ·have e_z:=h_1012 (Shut.no hC 12 11 rfl rfl (hU.out 11 _ rfl rfl));simp only[e_z]at hK⊢;go_simp;refine hK.out _ _ ?_;exact ⟨fun _=>rfl,h_1,h_2,h_3,h_4,h_5,h_6,h_7,h_8,h_9,h_10,h_11,h_12,h_1012,hM⟩
     ·go_simp;refine hK.out _ _ ?_;exact ⟨h_0,fun _=>rfl,h_2,h_3,h_4,h_5,h_6,h_7,h_8,h_9,h_10,h_11,h_12,h_1012,hM⟩
     ·go_simp;refine hK.out _ _ ?_;exact ⟨h_0,h_1,fun _=>rfl,h_3,h_4,h_5,h_6,h_7,h_8,h_9,h_10,h_11,h_12,h_1012,hM⟩
     ·have e_1:=h_1 (hN.out 1 rfl);simp only[e_1]at hK⊢;have e_2:=h_2 (hN.out 2 rfl);simp only[e_2]at hK⊢;go_simp;refine hK.out _ _ ?_;exact ⟨h_0,h_1,h_2,fun _=>rfl,h_4,h_5,h_6,h_7,h_8,h_9,h_10,h_11,h_12,h_1012,hM⟩
     ·have e_3:=h_3 (hN.out 3 rfl);simp only[e_3]at hK⊢;have u0:=(hM.bel.cell (p:=⟨b,o+j*4,none⟩) hb1).trans c0;have u1:=(hM.bel.cell (p:=⟨b,o+j*4+1,none⟩) hb1).trans c1;have u2:=(hM.bel.cell (p:=⟨b,o+j*4+2,none⟩) hb1).trans c2;have u3:=(hM.bel.cell (p:=⟨b,o+j*4+3,none⟩) hb1).trans c3;go_simp;refine hK.out _ _ ?_;exact ⟨h_0,h_1,h_2,h_3,fun _=>rfl,h_5,h_6,h_7,h_8,h_9,h_10,h_11,h_12,h_1012,hM⟩
     ·go_simp;refine hK.out _ _ ?_;exact ⟨h_0,h_1,h_2,h_3,h_4,fun _=>rfl,h_6,h_7,h_8,h_9,h_10,h_11,h_12,h_1012,hM⟩
     ·have e_5:=h_5 (hN.out 5 rfl);simp only[e_5]at hK⊢;obtain ⟨u1,u2,_,_⟩:=(hM.k (i:=0) rfl).both;go_simp;refine hK.out _ _ ?_;exact ⟨h_0,h_1,h_2,h_3,h_4,h_5,fun _=>rfl,h_7,h_8,h_9,h_10,h_11,h_12,h_1012,hM⟩
     ·go_simp;refine hK.out _ _ ?_;exact ⟨h_0,h_1,h_2,h_3,h_4,h_5,h_6,fun _=>rfl,h_8,h_9,h_10,h_11,h_12,h_1012,hM⟩
     ·have e_6:=h_6 (hN.out 6 rfl);simp only[e_6]at hK⊢;have e_7:=h_7 (hN.out 7 rfl);simp only[e_7]at hK⊢;go_simp;refine hK.out _ _ ?_;exact ⟨h_0,h_1,h_2,h_3,h_4,h_5,h_6,h_7,fun _=>rfl,h_9,h_10,h_11,h_12,h_1012,hM⟩
     ·have e_8:=h_8 (hN.out 8 rfl);simp only[e_8]at hK⊢;have u0:=(hM.bel.cell (p:=⟨b',o'+j,none⟩) hb2).trans k0;go_simp;refine hK.out _ _ ?_;exact ⟨h_0,h_1,h_2,h_3,h_4,h_5,h_6,h_7,h_8,fun _=>rfl,h_10,h_11,h_12,h_1012,hM⟩
     ·have e_4:=h_4 (hN.out 4 rfl);simp only[e_4]at hK⊢;have e_9:=h_9 (hN.out 9 rfl);simp only[e_9]at hK⊢;go_simp;go_at_call 28;refine (HR.out _ hM.bel).mono ?_;rintro e9 w10 ⟨rfl,q⟩;refine hK.out _ _ ?_;exact ⟨h_0,h_1,h_2,h_3,h_4,h_5,h_6,h_7,h_8,h_9,fun _=>rfl,h_11,h_12,h_1012,hM.below q⟩
     ·have e_0:=h_0 (hN.out 0 rfl);simp only[e_0]at hK⊢;have e_10:=h_10 (hN.out 10 rfl);simp only[e_10]at hK⊢;have z1:=hz.out;go_simp;refine hK.out _ _ ?_;exact ⟨h_0,h_1,h_2,h_3,h_4,h_5,h_6,h_7,h_8,h_9,h_10,fun _=>rfl,h_12,h_1012,hM⟩
     ·have e_11:=h_11 (hN.out 11 rfl);simp only[e_11]at hK⊢;go_simp;refine hK.out _ _ ?_;exact ⟨h_0,h_1,h_2,h_3,h_4,h_5,h_6,h_7,h_8,h_9,h_10,h_11,fun _=>rfl,fun h=>no_t h,hM⟩
    intro L s w9 hall hS;obtain ⟨h_0,h_1,h_2,h_3,h_4,h_5,h_6,h_7,h_8,h_9,h_10,h_11,h_12,h_1012,hM⟩:=hS;have e9_12:=h_12 (hall 12 (by decide));clear hall h_0 h_1 h_2 h_3 h_4 h_5 h_6 h_7 h_8 h_9 h_10 h_11 h_12 h_1012;have hm9:=hM;clear hM;go_wp2_with fail;go_roundg (l.length-(j+1))
    case measure=>omega
    case rel=>exact ⟨j+1,u++S,rfl,by omega,by simp,(by first|exact e9_12|rfl),HJ2.out,hm9⟩
   ·have d1:decide ((j:Int)<(l.length:Int))=false:=decide_eq_false (by omega);have e1:(l.zip vs).take j=l.zip vs:=List.take_of_length_le (by rw[List.length_zip,HLv.out,Nat.min_self];omega);rw[e1,linesG_zip]at HU;clear e1 hv ho;have hz1:¬9223372036854775807<u.size+11:=by omega
    have hz2:¬9223372036854775807<u.size+11+11:=by omega
    go_wp2_with fail;refine bodyPost_ret (v:= .string (u++⟨#[45,45,45,45,45,45,45,45,45,45,10]⟩)) (by simp[results,Tryz.results18,go_sem];try rfl) rfl ⟨?_,?_⟩
    ·congr 2;refine ba_eq3 ?_;simp only[ByteArray.data_append,Array.toList_append,HU.out];rfl
    ·exact M.bel
 ·have M0:=(Mem.start w).new 63 #[.int .i64 3,.slice B vs.length d];go_enter Tryz.func18,Tryz.ntmps18;go_wp2_with fail;go_loopg [6,5] l.length (fun k p sv wr=>∃(j:Nat) (u:ByteArray),k=l.length-j∧j≤l.length∧p= .int .i64 (j:Nat)∧sv= .string u∧u.data.toList=linesG ((l.zip vs).take j)∧Mem w wr [(w.heap.size,63,#[.int .i64 3,.slice B vs.length d])] [])
  case atStart=>exact ⟨0,⟨#[]⟩,rfl,Nat.zero_le _,rfl,rfl,rfl,M0⟩
  case round=>
   clear M0;obtain ⟨j,u,hkk,hj,rfl,rfl,hu,M⟩:=hrel;have hus:u.size≤30000000:=by
    have h1:=linesG_len (l:=(l.zip vs).take j) (fun p hp=>(HP.out p (List.mem_of_mem_take hp)).1);rw[←hu]at h1;have h2:u.data.toList.length=u.size:=by simp
    have h3:((l.zip vs).take j).length≤100:=by rw[List.length_take,List.length_zip];omega
    omega
   have HU:=Lib.hid hu;clear hu;obtain ⟨m0,m1,-,-⟩:=(M.k (i:=0) rfl).both;by_cases hlt:j<l.length
   ·have d1:decide ((j:Int)<(l.length:Int))=true:=decide_eq_true (by omega);have hlt2:j<vs.length:=by rw[HLv.out];exact hlt
    obtain ⟨b,o,hA,hb1,hc⟩:=row_o ho (row_ne hlt);obtain ⟨c0,c1,c2,A3,n3,c3,-⟩:=hc j hlt;obtain ⟨b',o',hB,hb2,hc'⟩:=row_v hv (row_ne hlt2);obtain ⟨A4,n4,k0,hx⟩:=hc' j hlt2;subst hA hB;clear hc hc';have hzl:j<(l.zip vs).length:=by rw[List.length_zip,HLv.out,Nat.min_self];exact hlt
    have hz:(l.zip vs)[j]=(l[j],vs[j]):=List.getElem_zip;obtain ⟨g1,g2,g3,g4,g5⟩:=HP.out _ (List.getElem_mem hzl);have HS:=Lib.hid ((congrArg linesG (List.take_succ_eq_append_getElem hzl)).trans (linesG_snoc _ _));rw[hz]at g1 g2 g3 g4 g5 HS;have HR:=Lib.hid (fun (w':World) (q:Below w.heap.size w w')=>d23line_any l[j] vs[j] A3 n3 A4 n4 w' (HE.out w' q) g2 g3 g4 g5 (Dt.below _ hx q (Nat.le_refl _)));have hSl:(⟨(lineS l[j] vs[j]).toArray⟩:ByteArray).size≤300000:=g1;clear hz hzl hx g1 g2 g3 g4 g5;generalize l[j]=x at*;generalize vs[j]=y at*;obtain ⟨xn,xb,xa,xx⟩:=x;dsimp only at c0 c1 c2 c3 HR HS hSl;have hSt:Hid ((⟨(lineS ⟨xn,xb,xa,xx⟩ y).toArray⟩:ByteArray).data.toList=lineS ⟨xn,xb,xa,xx⟩ y):=rfl;generalize (⟨(lineS ⟨xn,xb,xa,xx⟩ y).toArray⟩:ByteArray)=S at*;have hz:Hid (¬9223372036854775807<u.size+S.size):=by show ¬_;omega
    have HJ2:Hid ((u++S).data.toList=linesG ((l.zip vs).take (j+1))):=by
     show _=_;rw[HS.out,ByteArray.data_append,Array.toList_append,HU.out,hSt.out]
    go_upto_region 10 with fail;refine region_gen0 (n:=13) (frame:= ?frame2) (fun L s w'=>(L 0=true→s 0= .string u)∧(L 1=true→s 1= .slice (some ⟨b,o,none⟩) l.length c)∧(L 2=true→s 2= .int .i64 j)∧(L 3=true→s 3= .pointer (some ⟨b,o+j*4,none⟩))∧(L 4=true→s 4= .agg #[.string ⟨xn.toArray⟩,.bool xb,.bool xa,.slice A3 xx.length n3])∧(L 5=true→s 5= .pointer (some ⟨w.heap.size,1,none⟩))∧(L 6=true→s 6= .slice (some ⟨b',o',none⟩) vs.length d)∧(L 7=true→s 7= .int .i64 j)∧(L 8=true→s 8= .pointer (some ⟨b',o'+j,none⟩))∧(L 9=true→s 9= .slice A4 y.length n4)∧(L 10=true→s 10= .string S)∧(L 11=true→s 11= .string (u++S))∧(L 12=true→s 12= .string (u++S))∧(L 12=false→s 12= .string u)∧Mem w w' [(w.heap.size,63,#[.int .i64 3,.slice (some ⟨b',o',none⟩) vs.length d])] []) (by kernel_rfl) (by kernel_rfl) (by kernel_rfl) rfl ?_ ?_ ?_ ?_
    case refine_1=>exact ⟨fun h=>no_f h,fun h=>no_f h,fun h=>no_f h,fun h=>no_f h,fun h=>no_f h,fun h=>no_f h,fun h=>no_f h,fun h=>no_f h,fun h=>no_f h,fun h=>no_f h,fun h=>no_f h,fun h=>no_f h,fun h=>no_f h,fun _=>rfl,(M).drew⟩
    case refine_2=>
     intro s;simp only[fr,Act.put,List.append_eq,List.cons_append,List.nil_append,List.setIfInBounds_toArray,List.set_cons_zero,List.set_cons_succ,Nat.reduceAdd];rfl
    case refine_3=>
     refine SC 0 1 rfl ?_ (SC 1 2 rfl ?_ (SC 2 3 rfl ?_ (SC 3 4 rfl ?_ (SC 4 5 rfl ?_ (SC 5 6 rfl ?_ (SC 6 7 rfl ?_ (SC 7 8 rfl ?_ (SC 8 9 rfl ?_ (SC 9 10 rfl ?_ (SC 10 11 rfl ?_ (SC 11 12 rfl ?_ (SC 12 13 rfl ?_ Steps.nil))))))))))));all_goals (intro L s w9 hN hU hi hC hS K hK;dsimp only at hK⊢;simp only[Act.put,List.setIfInBounds_toArray,List.set_cons_zero,List.set_cons_succ]at hK;obtain ⟨h_0,h_1,h_2,h_3,h_4,h_5,h_6,h_7,h_8,h_9,h_10,h_11,h_12,h_1012,hM⟩:=hS;refine ite_of rfl ?_)
     ·have e_z:=h_1012 (Shut.no hC 12 11 rfl rfl (hU.out 11 _ rfl rfl));simp only[e_z]at hK⊢;go_simp;refine hK.out _ _ ?_;exact ⟨fun _=>rfl,h_1,h_2,h_3,h_4,h_5,h_6,h_7,h_8,h_9,h_10,h_11,h_12,h_1012,hM⟩
     ·go_simp;refine hK.out _ _ ?_;exact ⟨h_0,fun _=>rfl,h_2,h_3,h_4,h_5,h_6,h_7,h_8,h_9,h_10,h_11,h_12,h_1012,hM⟩
     ·go_simp;refine hK.out _ _ ?_;exact ⟨h_0,h_1,fun _=>rfl,h_3,h_4,h_5,h_6,h_7,h_8,h_9,h_10,h_11,h_12,h_1012,hM⟩
     ·have e_1:=h_1 (hN.out 1 rfl);simp only[e_1]at hK⊢;have e_2:=h_2 (hN.out 2 rfl);simp only[e_2]at hK⊢;go_simp;refine hK.out _ _ ?_;exact ⟨h_0,h_1,h_2,fun _=>rfl,h_4,h_5,h_6,h_7,h_8,h_9,h_10,h_11,h_12,h_1012,hM⟩
     ·have e_3:=h_3 (hN.out 3 rfl);simp only[e_3]at hK⊢;have u0:=(hM.bel.cell (p:=⟨b,o+j*4,none⟩) hb1).trans c0;have u1:=(hM.bel.cell (p:=⟨b,o+j*4+1,none⟩) hb1).trans c1;have u2:=(hM.bel.cell (p:=⟨b,o+j*4+2,none⟩) hb1).trans c2;have u3:=(hM.bel.cell (p:=⟨b,o+j*4+3,none⟩) hb1).trans c3;go_simp;refine hK.out _ _ ?_;exact ⟨h_0,h_1,h_2,h_3,fun _=>rfl,h_5,h_6,h_7,h_8,h_9,h_10,h_11,h_12,h_1012,hM⟩
     ·go_simp;refine hK.out _ _ ?_;exact ⟨h_0,h_1,h_2,h_3,h_4,fun _=>rfl,h_6,h_7,h_8,h_9,h_10,h_11,h_12,h_1012,hM⟩
     ·have e_5:=h_5 (hN.out 5 rfl);simp only[e_5]at hK⊢;obtain ⟨u1,u2,_,_⟩:=(hM.k (i:=0) rfl).both;go_simp;refine hK.out _ _ ?_;exact ⟨h_0,h_1,h_2,h_3,h_4,h_5,fun _=>rfl,h_7,h_8,h_9,h_10,h_11,h_12,h_1012,hM⟩
     ·go_simp;refine hK.out _ _ ?_;exact ⟨h_0,h_1,h_2,h_3,h_4,h_5,h_6,fun _=>rfl,h_8,h_9,h_10,h_11,h_12,h_1012,hM⟩
     ·have e_6:=h_6 (hN.out 6 rfl);simp only[e_6]at hK⊢;have e_7:=h_7 (hN.out 7 rfl);simp only[e_7]at hK⊢;go_simp;refine hK.out _ _ ?_;exact ⟨h_0,h_1,h_2,h_3,h_4,h_5,h_6,h_7,fun _=>rfl,h_9,h_10,h_11,h_12,h_1012,hM⟩
     ·have e_8:=h_8 (hN.out 8 rfl);simp only[e_8]at hK⊢;have u0:=(hM.bel.cell (p:=⟨b',o'+j,none⟩) hb2).trans k0;go_simp;refine hK.out _ _ ?_;exact ⟨h_0,h_1,h_2,h_3,h_4,h_5,h_6,h_7,h_8,fun _=>rfl,h_10,h_11,h_12,h_1012,hM⟩
     ·have e_4:=h_4 (hN.out 4 rfl);simp only[e_4]at hK⊢;have e_9:=h_9 (hN.out 9 rfl);simp only[e_9]at hK⊢;go_simp;go_at_call 28;refine (HR.out _ hM.bel).mono ?_;rintro e9 w10 ⟨rfl,q⟩;refine hK.out _ _ ?_;exact ⟨h_0,h_1,h_2,h_3,h_4,h_5,h_6,h_7,h_8,h_9,fun _=>rfl,h_11,h_12,h_1012,hM.below q⟩
     ·have e_0:=h_0 (hN.out 0 rfl);simp only[e_0]at hK⊢;have e_10:=h_10 (hN.out 10 rfl);simp only[e_10]at hK⊢;have z1:=hz.out;go_simp;refine hK.out _ _ ?_;exact ⟨h_0,h_1,h_2,h_3,h_4,h_5,h_6,h_7,h_8,h_9,h_10,fun _=>rfl,h_12,h_1012,hM⟩
     ·have e_11:=h_11 (hN.out 11 rfl);simp only[e_11]at hK⊢;go_simp;refine hK.out _ _ ?_;exact ⟨h_0,h_1,h_2,h_3,h_4,h_5,h_6,h_7,h_8,h_9,h_10,h_11,fun _=>rfl,fun h=>no_t h,hM⟩
    intro L s w9 hall hS;obtain ⟨h_0,h_1,h_2,h_3,h_4,h_5,h_6,h_7,h_8,h_9,h_10,h_11,h_12,h_1012,hM⟩:=hS;have e9_12:=h_12 (hall 12 (by decide));clear hall h_0 h_1 h_2 h_3 h_4 h_5 h_6 h_7 h_8 h_9 h_10 h_11 h_12 h_1012;have hm9:=hM;clear hM;go_wp2_with fail;go_roundg (l.length-(j+1))
    case measure=>omega
    case rel=>exact ⟨j+1,u++S,rfl,by omega,by simp,(by first|exact e9_12|rfl),HJ2.out,hm9⟩
   ·have d1:decide ((j:Int)<(l.length:Int))=false:=decide_eq_false (by omega);have e1:(l.zip vs).take j=l.zip vs:=List.take_of_length_le (by rw[List.length_zip,HLv.out,Nat.min_self];omega);rw[e1,linesG_zip]at HU;clear e1 hv ho;have hz1:¬9223372036854775807<u.size+11:=by omega
    have hz2:¬9223372036854775807<u.size+11+11:=by omega
    go_wp2_with fail;refine bodyPost_ret (v:= .string (u++⟨#[45,45,45,45,45,45,45,45,45,45,10]⟩++⟨#[61,61,61,61,61,61,61,61,61,61,10]⟩)) (by simp[results,Tryz.results18,go_sem];try rfl) rfl ⟨?_,?_⟩
    ·congr 2;refine ba_eq3 ?_;simp only[ByteArray.data_append,Array.toList_append,HU.out];unfold endS;rw[if_pos rfl,←List.append_assoc];rfl
    ·exact M.bel
theorem rightS_D {l:List Ot} {a:List Int} (h:∀o∈l,o.name.length≤8000):rightS l a=rightD l a:=by
 unfold rightS rightD;cases ownO a l with
 |none=>rfl
 |some vs=>
  show (_&&maysS l vs)=(_&&maysD l vs);rw[mays_doc vs h]
theorem rep_good {outs:List Ot} {k:Int} {a:List Int} (hk:k=2∨k=3) (h:rightS outs a=true) {vs:List (List Int)} (hv:ownO a outs=some vs):replyT outs k a=(linesS outs vs++endS k,0):=by
 rw[reply_good hk h hv,linesG_zip]
theorem d23Text_any {F G:Nat→Prop} (A:Option Addr) (c:Nat) (l:List Ot) (k:Int) (B:Option Addr) (d:Nat) (a:List Int) (nodes:Int) (w:World) (hE:Env w) (ho:(layO 45 3).row.P F w (.slice A l.length c) l) (ha:(layN 2).row.P G w (.slice B a.length d) a) (hn:FewO l) (hn8:∀o∈l,o.name.length≤8000) (han:a.length≤100000) (har:RngN a):Calls Tryz.prog 10 #[.slice A l.length c,verV k B a.length d nodes] w fun e w'=>e= .returned (TEV (replyT l k a))∧Below w.heap.size w w':=by
 have HR:=Lib.hid (fun (w':World) (q:Below w.heap.size w w')=>d23Right_any A c l B d a w' (Dt.below _ ho q (Nat.le_refl _)) (Dt.below _ ha q (Nat.le_refl _)) hn han);have HC:=Lib.hid (fun (w':World) (q:Below w.heap.size w w')=>d23own_any A c l B d a w' (Dt.below _ ho q (Nat.le_refl _)) (Dt.below _ ha q (Nat.le_refl _)) hn.1 (fun o ho=>(hn.2 o ho).2) han);have HRD:=Lib.hid (rightS_D (a:=a) hn8);have HO:=Lib.hid ho;have HF:Hid (∀vs,ownO a l=some vs→∀p∈l.zip vs,(lineS p.1 p.2).length≤300000∧p.1.name.length≤10000∧p.2.length=p.1.x.length∧p.2.length≤10000∧RngN p.2):=by
  show ∀vs,_;intro vs hv p hp;have h1:=ownO_mem hv p hp;obtain ⟨o,v⟩:=p;obtain ⟨g1,g2⟩:=hn.2 o (List.of_mem_zip hp).1;have g3:=valsO_len h1;have g4:RngN v:=fun n hn=>har n (valsO_mem h1 n hn);dsimp only at*;exact ⟨lineS_len g1 (by omega) (by omega) g4,g1,g3,by omega,g4⟩
 have hnl:=hn.1;have q0:=below_alloc1 w (.cells #[.int .i64 k,.slice B a.length d,.int .i64 nodes] 25);have hb0:=Blk.new w 25 #[.int .i64 k,.slice B a.length d,.int .i64 nodes];clear ho ha hn hn8 han har;unfold verV;by_cases h1:k=1
 ·subst h1;have HW:=Lib.hid (fun (w':World)=>d23whole_un A l.length c 1 none 0 0 w' (.inl rfl));go_enter Tryz.func10,Tryz.ntmps10;go_wp2_with fail;refine (HW.out _).mono ?_;rintro e w1 ⟨rfl,q1⟩;go_wp2_with fail;refine bodyPost_ret (v:=TEV (unsatS,0)) (by simp[results,Tryz.results10,go_sem,TEV];try rfl) rfl ⟨?_,?_⟩
  ·rfl
  ·exact below_trans q0 q1
 ·by_cases h4:k=4
  ·subst h4;have HW:=Lib.hid (fun (w':World)=>d23whole_un A l.length c 4 none 0 0 w' (.inr rfl));go_enter Tryz.func10,Tryz.ntmps10;go_wp2_with fail;refine (HW.out _).mono ?_;rintro e w1 ⟨rfl,q1⟩;go_wp2_with fail;refine bodyPost_ret (v:=TEV (unknownS,0)) (by simp[results,Tryz.results10,go_sem,TEV];try rfl) rfl ⟨?_,?_⟩
   ·rfl
   ·exact below_trans q0 q1
  ·by_cases h2:k=2
   ·subst h2;clear h1 h4;have HBad:=Lib.hid (fun h=>reply_bad (outs:=l) (a:=a) (k:=2) (by decide) h);have HGood:=Lib.hid (fun h vs hv=>rep_good (outs:=l) (a:=a) (k:=2) (by decide) h (vs:=vs) hv);rw[HRD.out]at HBad HGood;go_enter Tryz.func10,Tryz.ntmps10;go_wp2_with fail;refine (HR.out _ q0).mono ?_;rintro e w1 ⟨rfl,q1⟩;have q2:=below_trans q0 q1;obtain ⟨e0,e1,e2⟩:=(hb0.below q1 (Nat.le_refl _)).three;cases hok:rightD l a with
    |false=>
     have HZ:=Lib.hid (HBad.out hok);clear hok;go_wp2_with fail;refine bodyPost_ret (v:=TEV ([],2)) (by simp[results,Tryz.results10,go_sem,TEV];try rfl) rfl ⟨?_,?_⟩
     ·rw[HZ.out]
     ·exact q2
    |true=>
     have hok2:rightS l a=true:=HRD.out.trans hok;go_wp2_with fail;refine (HC.out _ q2).mono ?_;rintro e w2 ⟨⟨hn,rfl⟩|⟨vs,v,hv,rfl,hown⟩,q3⟩
     ·exact absurd hn (right_own hok2)
     ·have HZ:=Lib.hid (HGood.out hok vs hv);have q4:=below_trans q2 q3;obtain ⟨e0,e1,e2⟩:=((hb0.below q1 (Nat.le_refl _)).below q3 (Nat.le_refl _)).three;obtain ⟨A9,c9,rfl⟩:=Lay.own_len hown;have HW:=Lib.hid (d23whole_any A c l 2 A9 c9 vs w2 (hE.below q4) (by decide) (Dt.below _ HO.out q4 (Nat.le_refl _)) (Lay.own_row hown) hnl (ownO_len hv) (HF.out vs hv));clear hok hok2 hv hown;go_wp2_with fail;refine HW.out.mono ?_;rintro e w3 ⟨rfl,q5⟩;go_wp2_with fail;refine bodyPost_ret (v:=TEV (linesS l vs++endS 2,0)) (by simp[results,Tryz.results10,go_sem,TEV];try rfl) rfl ⟨?_,?_⟩
      ·rw[HZ.out]
      ·exact below_trans q4 q5
   ·by_cases h3:k=3
    ·subst h3;clear h1 h4 h2;have HBad:=Lib.hid (fun h=>reply_bad (outs:=l) (a:=a) (k:=3) (by decide) h);have HGood:=Lib.hid (fun h vs hv=>rep_good (outs:=l) (a:=a) (k:=3) (by decide) h (vs:=vs) hv);rw[HRD.out]at HBad HGood;go_enter Tryz.func10,Tryz.ntmps10;go_wp2_with fail;refine (HR.out _ q0).mono ?_;rintro e w1 ⟨rfl,q1⟩;have q2:=below_trans q0 q1;obtain ⟨e0,e1,e2⟩:=(hb0.below q1 (Nat.le_refl _)).three;cases hok:rightD l a with
     |false=>
      have HZ:=Lib.hid (HBad.out hok);clear hok;go_wp2_with fail;refine bodyPost_ret (v:=TEV ([],2)) (by simp[results,Tryz.results10,go_sem,TEV];try rfl) rfl ⟨?_,?_⟩
      ·rw[HZ.out]
      ·exact q2
     |true=>
      have hok2:rightS l a=true:=HRD.out.trans hok;go_wp2_with fail;refine (HC.out _ q2).mono ?_;rintro e w2 ⟨⟨hn,rfl⟩|⟨vs,v,hv,rfl,hown⟩,q3⟩
      ·exact absurd hn (right_own hok2)
      ·have HZ:=Lib.hid (HGood.out hok vs hv);have q4:=below_trans q2 q3;obtain ⟨e0,e1,e2⟩:=((hb0.below q1 (Nat.le_refl _)).below q3 (Nat.le_refl _)).three;obtain ⟨A9,c9,rfl⟩:=Lay.own_len hown;have HW:=Lib.hid (d23whole_any A c l 3 A9 c9 vs w2 (hE.below q4) (by decide) (Dt.below _ HO.out q4 (Nat.le_refl _)) (Lay.own_row hown) hnl (ownO_len hv) (HF.out vs hv));clear hok hok2 hv hown;go_wp2_with fail;refine HW.out.mono ?_;rintro e w3 ⟨rfl,q5⟩;go_wp2_with fail;refine bodyPost_ret (v:=TEV (linesS l vs++endS 3,0)) (by simp[results,Tryz.results10,go_sem,TEV];try rfl) rfl ⟨?_,?_⟩
       ·rw[HZ.out]
       ·exact below_trans q4 q5
    ·have HZ:=Lib.hid (reply_no (outs:=l) (a:=a) h1 h4 h2 h3);have h1':=int_ne0' h1;have h2':=int_ne0' h2;have h3':=int_ne0' h3;have h4':=int_ne0' h4;clear h1 h2 h3 h4;go_enter Tryz.func10,Tryz.ntmps10;go_wp2_with fail;refine bodyPost_ret (v:=TEV ([],2)) (by simp[results,Tryz.results10,go_sem,TEV];try rfl) rfl ⟨?_,?_⟩
     ·rw[HZ.out]
     ·exact q0
end Go.Proofs.YtjlhjabgclflcaaGreatDoor

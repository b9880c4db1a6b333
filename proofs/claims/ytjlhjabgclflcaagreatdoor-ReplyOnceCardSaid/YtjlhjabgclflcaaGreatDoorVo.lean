import Derived.Test.YtjlhjabgclflcaaGreatDoorVn
set_option maxHeartbeats 8000000
set_option maxRecDepth 100000
set_option linter.unusedSimpArgs false
set_option linter.unusedVariables false
namespace Go.Proofs.YtjlhjabgclflcaaGreatDoor
open Go.RowKit Num Go.Joins
theorem domS_one {x:It} {r:Int×Int} (hb:x.bool=false) (h:x.dom=[r]):domS x=(Lib.itoa r.1++(46::46::Lib.itoa r.2),true):=by
 unfold domS;rw[if_neg (by rw[hb];decide),h]
theorem domS_many {x:It} (hb:x.bool=false) (h:x.dom.length≠1):domS x=if x.dom=[]∨256<x.dom.length then ([],false) else if x.dom.all (fun r=>r.1==r.2)=true then (123::(Lib.join (x.dom.map fun r=>Lib.itoa r.1) [44,32]++[125]),true) else ([],false):=by
 unfold domS;rw[if_neg (by rw[hb];decide)];split
 ·rename_i r hr;rw[hr]at h;exact absurd rfl h
 ·rfl
theorem domS_no {x:It} (hb:x.bool=false) (h:x.dom.length=0∨256<x.dom.length):domS x=([],false):=by
 rw[domS_many hb (by omega),if_pos];rcases h with h|h
 ·exact Or.inl (List.length_eq_zero_iff.1 h)
 ·exact Or.inr h
theorem domS_bad {x:It} (hb:x.bool=false) (h:x.dom.length≠1) {r:Int×Int} (hr:r∈x.dom) (hne:r.1≠r.2):domS x=([],false):=by
 rw[domS_many hb h];split
 ·rfl
 ·rw[if_neg];intro h1;rw[List.all_eq_true]at h1;exact hne (eq_of_beq (h1 r hr))
theorem domS_yes {x:It} (hb:x.bool=false) (h:x.dom.length≠1) (h0:x.dom.length≠0) (h1:¬256<x.dom.length) (ha:∀r∈x.dom,r.1=r.2):domS x=(123::(Lib.join (x.dom.map fun r=>Lib.itoa r.1) [44,32]++[125]),true):=by
 rw[domS_many hb h,if_neg,if_pos]
 ·rw[List.all_eq_true];intro r hr;rw[ha r hr];simp
 ·rintro (h2|h2)
  ·rw[h2]at h0;exact h0 rfl
  ·exact h1 h2
def ntxt (r:Int×Int):ByteArray:=⟨(Lib.itoa r.1).toArray⟩
theorem vdom_any {F:Nat→Prop} (k:Int) (nm:ByteArray) (b:Bool) (dm:List (Int×Int)) (n3:Nat) (A3:Option Addr) (sz:Int) (o:Bool) (vs n6:Nat) (A6:Option Addr) (ak:Int) (w:World) (hE:Env w) (hr:∀r∈dm,I64 r.1∧I64 r.2) (ha:layR.row.P F w (.slice A3 dm.length n3) dm) (x:It) (hxb:x.bool=b) (hxd:x.dom=dm):Calls Tryz.prog 109 #[.agg #[.int .i64 k,.string nm,.bool b,.slice A3 dm.length n3,.int .i64 sz,.bool o,.slice A6 vs n6,.int .i64 ak]] w fun e w'=>e= .returned (TXV (domS x))∧Below w.heap.size w w':=by
 have q0:=below_alloc1 w (.cells #[.int .i64 k,.string nm,.bool b,.slice A3 dm.length n3,.int .i64 sz,.bool o,.slice A6 vs n6,.int .i64 ak] 97);have hE1:=hE.below q0;cases b with
 |true=>
  have HF:=Lib.hid (show domS x=(wBool,dm.length==0) by unfold domS;rw[if_pos hxb,hxd];cases dm<;>rfl);clear hr ha hxd hxb;generalize dm.length=d at*;by_cases hd:d=0
  ·subst hd;go_enter Tryz.func109,Tryz.ntmps109;go_wp2_with fail;go_quiet (fail);go_wp2_with fail;refine bodyPost_ret (v:=TXV (wBool,true)) (by simp[results,Tryz.results109,go_sem,TXV,wBool]) rfl ?_;exact ⟨by rw[HF.out];rfl,below_dn q0 _⟩
  ·have h1:=nat_ne0 hd;have HG:=Lib.hid (show (d==0)=false by simp[hd]);go_enter Tryz.func109,Tryz.ntmps109;go_wp2_with fail;go_quiet (fail);go_wp2_with fail;refine bodyPost_ret (v:=TXV (wBool,false)) (by simp[results,Tryz.results109,go_sem,TXV,wBool]) rfl ?_;exact ⟨by rw[HF.out,HG.out],below_dn q0 _⟩
 |false=>
  by_cases hd0:dm.length=0∨256<dm.length
  ·have HF:=Lib.hid (domS_no hxb (by rw[hxd];exact hd0));clear hr ha hxd hxb;generalize dm.length=d at*;rcases hd0 with hd|hd
   ·subst hd;go_enter Tryz.func109,Tryz.ntmps109;go_wp2_with fail;refine bodyPost_ret (v:=TXV ([],false)) (by simp[results,Tryz.results109,go_sem,TXV,wBool]) rfl ?_;exact ⟨by rw[HF.out],q0⟩
   ·have d1:=nat_ne0 (show ¬d=0 by omega);have d2:((d:Int)==1)=false:=by simp;omega
    have d3:decide ((256:Int)<(d:Int))=true:=decide_eq_true (by omega);go_enter Tryz.func109,Tryz.ntmps109;go_wp2_with fail;refine bodyPost_ret (v:=TXV ([],false)) (by simp[results,Tryz.results109,go_sem,TXV,wBool]) rfl ?_;exact ⟨by rw[HF.out],q0⟩
  ·have hd1:¬dm.length=0:=fun h=>hd0 (Or.inl h);have hd2:¬256<dm.length:=fun h=>hd0 (Or.inr h);clear hd0;by_cases h1:dm.length=1
   ·obtain ⟨r,rfl⟩:=List.length_eq_one_iff.1 h1;have HF:=Lib.hid (domS_one hxb hxd);obtain ⟨rb,ro,hA,hv3,hc⟩:=row_rg ha (by simp);obtain ⟨c1,c2⟩:=hc 0 (by simp);rw[Nat.zero_mul,Nat.add_zero]at c1 c2;have C1:=Lib.hid c1;have C2:=Lib.hid c2;subst hA;obtain ⟨hr1,hr2⟩:=hr r List.mem_cons_self;clear hd1 hd2 h1 hxd hxb ha hc hr c1 c2;have HN1:=Lib.hid (fun (w':World) (hE':Env w')=>vnum_any r.1 hr1 w' hE');have HN2:=Lib.hid (fun (w':World) (hE':Env w')=>vnum_any r.2 hr2 w' hE');have l1:=itoa_len hr1;have l2:=itoa_len hr2;obtain ⟨r1,r2⟩:=r;dsimp only at*;have hX:(Value.tuple #[.string ((⟨(Lib.itoa r1).toArray⟩:ByteArray)++⟨#[46,46]⟩++⟨(Lib.itoa r2).toArray⟩),.bool true])=TXV (Lib.itoa r1++(46::46::Lib.itoa r2),true):=by
     have h:((⟨(Lib.itoa r1).toArray⟩:ByteArray)++⟨#[46,46]⟩++⟨(Lib.itoa r2).toArray⟩)=⟨(Lib.itoa r1++(46::46::Lib.itoa r2)).toArray⟩:=by
      apply ByteArray.ext;simp
     unfold TXV;rw[h]
    have HX:=Lib.hid hX;have s1:(⟨(Lib.itoa r1).toArray⟩:ByteArray).size≤21:=l1;have s2:(⟨(Lib.itoa r2).toArray⟩:ByteArray).size≤21:=l2;generalize (⟨(Lib.itoa r1).toArray⟩:ByteArray)=X1 at*;generalize (⟨(Lib.itoa r2).toArray⟩:ByteArray)=X2 at*;have hz1:Hid (¬9223372036854775807<X1.size+2):=by show ¬_;omega
    have hz2:Hid (¬9223372036854775807<X1.size+2+X2.size):=by show ¬_;omega
    clear hX l1 l2 s1 s2 hE1 q0;have M:Mem w (w.alloc (.cells #[.int .i64 k,.string nm,.bool false,.slice (some ⟨rb,ro,none⟩) 1 n3,.int .i64 sz,.bool o,.slice A6 vs n6,.int .i64 ak] 97)) [(w.heap.size,97,#[.int .i64 k,.string nm,.bool false,.slice (some ⟨rb,ro,none⟩) 1 n3,.int .i64 sz,.bool o,.slice A6 vs n6,.int .i64 ak])] []:=(Mem.start w).new 97 _;show Calls Tryz.prog 109 #[.agg #[.int .i64 k,.string nm,.bool false,.slice (some ⟨rb,ro,none⟩) 1 n3,.int .i64 sz,.bool o,.slice A6 vs n6,.int .i64 ak]] w _;go_enter Tryz.func109,Tryz.ntmps109;go_upto_region 4 with fail;refine region_st (n:=16) (frame:= ?frame1) (fun jK=>[.val (.fix (.pointer (some ⟨w.heap.size,3,none⟩))),.val (.fix (.slice (some ⟨rb,ro,none⟩) 1 n3)),.val (.fix (.pointer (some ⟨rb,ro,none⟩))),.val (.fix (.pointer (some ⟨rb,ro,none⟩))),.val (.fix (.int .i64 r1)),.val (.fix (.string X1)),.val (.fix (.string (X1++⟨#[46,46]⟩))),.val (.fix (.pointer (some ⟨w.heap.size,3,none⟩))),.val (.fix (.slice (some ⟨rb,ro,none⟩) 1 n3)),.val (.fix (.pointer (some ⟨rb,ro,none⟩))),.val (.fix (.pointer (some ⟨rb,ro+1,none⟩))),.val (.fix (.int .i64 r2)),.val (.fix (.string X2)),.val (.fix (.string (X1++⟨#[46,46]⟩++X2))),.val (.fix (.string (X1++⟨#[46,46]⟩++X2))),.val (.fix (.bool true))].getD jK .none) [] (by kernel_rfl) (by kernel_rfl) (by kernel_rfl) rfl M (fun _ h=>by cases h) (fun _ h=>by cases h) ?_ ?_ ?_
    case refine_1=>
     intro s;simp only[fr,Act.put,List.append_eq,List.cons_append,List.nil_append,List.setIfInBounds_toArray,List.set_cons_zero,List.set_cons_succ,Nat.reduceAdd];rfl
    case refine_2=>
     refine SC 0 1 rfl ?_ (SC 1 2 rfl ?_ (SC 2 3 rfl ?_ (SC 3 4 rfl ?_ (SC 4 5 rfl ?_ (SC 5 6 rfl ?_ (SC 6 7 rfl ?_ (SC 7 8 rfl ?_ (SC 8 9 rfl ?_ (SC 9 10 rfl ?_ (SC 10 11 rfl ?_ (SC 11 12 rfl ?_ (SC 12 13 rfl ?_ (SC 13 14 rfl ?_ (SC 14 15 rfl ?_ (SC 15 16 rfl ?_ Steps.nil)))))))))))))));all_goals (intro L s w9 hN hU hi hS K hK;dsimp only at hK⊢;simp only[Act.put,List.setIfInBounds_toArray,List.set_cons_zero,List.set_cons_succ]at hK)
     ·go_simp;exact hK.out _ _ (hS.v0 rfl rfl rfl)
     ·have e0:=hS.fx 0 rfl rfl (hN.out 0 rfl);simp only[e0]at hK⊢;obtain ⟨u1,u2,u3,u4,u5,u6,u7,u8⟩:=Blk.eight (hS.mem.k (i:=0) rfl);go_simp;exact hK.out _ _ (hS.v0 rfl rfl rfl)
     ·have e1:=hS.fx 1 rfl rfl (hN.out 1 rfl);simp only[e1]at hK⊢;go_simp;exact hK.out _ _ (hS.v0 rfl rfl rfl)
     ·have e2:=hS.fx 2 rfl rfl (hN.out 2 rfl);simp only[e2]at hK⊢;go_simp;exact hK.out _ _ (hS.v0 rfl rfl rfl)
     ·have e3:=hS.fx 3 rfl rfl (hN.out 3 rfl);simp only[e3]at hK⊢;have z1:=(hS.mem.bel.cell (p:=⟨rb,ro,none⟩) hv3).trans C1.out;go_simp;exact hK.out _ _ (hS.v0 rfl rfl rfl)
     ·have e4:=hS.fx 4 rfl rfl (hN.out 4 rfl);simp only[e4]at hK⊢;go_simp;go_at_call 110;refine (HN1.out _ (hE.below hS.mem.bel)).mono ?_;rintro e9 w10 ⟨rfl,q⟩;exact hK.out _ _ (hS.val rfl (noStore_of rfl) q rfl)
     ·have e5:=hS.fx 5 rfl rfl (hN.out 5 rfl);simp only[e5]at hK⊢;have z1:=hz1.out;go_simp;exact hK.out _ _ (hS.v0 rfl rfl rfl)
     ·go_simp;exact hK.out _ _ (hS.v0 rfl rfl rfl)
     ·have e7:=hS.fx 7 rfl rfl (hN.out 7 rfl);simp only[e7]at hK⊢;obtain ⟨u1,u2,u3,u4,u5,u6,u7,u8⟩:=Blk.eight (hS.mem.k (i:=0) rfl);go_simp;exact hK.out _ _ (hS.v0 rfl rfl rfl)
     ·have e8:=hS.fx 8 rfl rfl (hN.out 8 rfl);simp only[e8]at hK⊢;go_simp;exact hK.out _ _ (hS.v0 rfl rfl rfl)
     ·have e9:=hS.fx 9 rfl rfl (hN.out 9 rfl);simp only[e9]at hK⊢;go_simp;exact hK.out _ _ (hS.v0 rfl rfl rfl)
     ·have e10:=hS.fx 10 rfl rfl (hN.out 10 rfl);simp only[e10]at hK⊢;have z1:=(hS.mem.bel.cell (p:=⟨rb,ro+1,none⟩) hv3).trans C2.out;go_simp;exact hK.out _ _ (hS.v0 rfl rfl rfl)
     ·have e11:=hS.fx 11 rfl rfl (hN.out 11 rfl);simp only[e11]at hK⊢;go_simp;go_at_call 110;refine (HN2.out _ (hE.below hS.mem.bel)).mono ?_;rintro e9 w10 ⟨rfl,q⟩;exact hK.out _ _ (hS.val rfl (noStore_of rfl) q rfl)
     ·have e6:=hS.fx 6 rfl rfl (hN.out 6 rfl);simp only[e6]at hK⊢;have e12:=hS.fx 12 rfl rfl (hN.out 12 rfl);simp only[e12]at hK⊢;have z1:=hz2.out;go_simp;exact hK.out _ _ (hS.v0 rfl rfl rfl)
     ·have e13:=hS.fx 13 rfl rfl (hN.out 13 rfl);simp only[e13]at hK⊢;go_simp;exact hK.out _ _ (hS.v0 rfl rfl rfl)
     ·go_simp;exact hK.out _ _ (hS.v0 rfl rfl rfl)
    intro L s w9 hall hS;have eS:s 14= .string (X1++⟨#[46,46]⟩++X2):=hS.val_at 14 rfl (by decide) (hall 14 (by decide));have eB:s 15= .bool true:=hS.val_at 15 rfl (by decide) (hall 15 (by decide));go_wp2;refine bodyPost_ret (v:= .tuple #[.string (X1++⟨#[46,46]⟩++X2),.bool true]) (by simp[results,Tryz.results109,go_sem,eS,eB]) rfl ⟨?_,hS.mem.bel⟩;rw[HX.out,HF.out]
   ·have d1:=nat_ne0 hd1;have d2:((dm.length:Int)==1)=false:=by simp;omega
    have d3:decide ((256:Int)<(dm.length:Int))=false:=decide_eq_false (by omega);have HBAD:=Lib.hid (fun (r:Int×Int) (h:r∈dm) (hne:r.1≠r.2)=>domS_bad hxb (by rw[hxd];exact h1) (by rw[hxd];exact h) hne);have HYES:=Lib.hid (fun (h:∀r∈dm,r.1=r.2)=>domS_yes hxb (by rw[hxd];exact h1) (by rw[hxd];exact hd1) (by rw[hxd];exact hd2) (by rw[hxd];exact h));rw[hxd]at HYES;clear hxd hxb;have HR:=Lib.hid hr;clear hr;go_enter Tryz.func109,Tryz.ntmps109;go_wp2_with fail;go_loopg [4,47] dm.length (fun k v a wr=>∃(j:Nat),k=dm.length-j∧j≤dm.length∧a= .int .i64 (j:Nat)∧(∀y∈dm.take j,y.1=y.2)∧OwnS wr w.heap.size v ((dm.take j).map ntxt)∧Below w.heap.size w wr)
    case atStart=>exact ⟨0,rfl,Nat.zero_le _,rfl,(by intro y hy;cases hy),(World.ownsRow_nil _ _ _ _).kept (World.grownBy_alloc _ _ none) (Classical.em _),q0⟩
    case round=>
     obtain ⟨j,hk,hj,rfl,hall,ho,hbl⟩:=hrel;by_cases hlt:j<dm.length
     ·have d4:decide ((j:Int)<(dm.length:Int))=true:=decide_eq_true (by omega);obtain ⟨b,oo,hA,hb1,hc⟩:=row_rg (Dt.below _ ha hbl (Nat.le_refl _)) (fun e=>by rw[e]at hlt;cases hlt);obtain ⟨c1,c2⟩:=hc j hlt;subst hA;clear hc ha;have HA:=Lib.hid hall;clear hall;have htk:dm.take (j+1)=dm.take j++[dm[j]]:=List.take_succ_eq_append_getElem hlt;have HT:=Lib.hid htk;have HM:=Lib.hid (List.getElem_mem hlt);have hrj:=(HR.out dm[j] HM.out).1;clear htk;generalize dm[j]=r at*;obtain ⟨r1,r2⟩:=r;dsimp only at c1 c2 hrj;have q2:=below_trans hbl (below_alloc1 wr (.cells #[.int .i64 r1,.int .i64 r2] 184));have hE2:=hE.below q2;by_cases he:r1=r2
      ·subst he;have ho2:OwnS (wr.alloc (.cells #[.int .i64 r1,.int .i64 r1] 184)) w.heap.size _ ((dm.take j).map ntxt):=World.ownsRow.kept ho (World.grownBy_alloc wr _ none) (Classical.em _);go_wp2_with fail;refine (vnum_any r1 hrj _ hE2).mono ?_;rintro e w3 ⟨rfl,q3⟩;have q4:=below_trans q2 q3;have ho3:OwnS w3 w.heap.size _ ((dm.take j).map ntxt):=World.ownsRow.kept ho2 (grown_of_below q3) (Classical.em _);have hlen:((dm.take j).map ntxt).length≤1000000:=by rw[List.length_map,List.length_take];omega
       have hbs:w.heap.size≤w3.heap.size:=q4.size;have HA2:Hid (∀y∈dm.take (j+1),y.1=y.2):=by
        show _;rw[HT.out];intro y hy;rcases List.mem_append.1 hy with hy|hy
        ·exact HA.out y hy
        ·rw[List.mem_singleton.1 hy]
       have HT2:Hid ((dm.take (j+1)).map ntxt=(dm.take j).map ntxt++[⟨(Lib.itoa r1).toArray⟩]):=by
        show _=_;rw[HT.out,List.map_append];rfl
       clear c1 c2 ho ho2 q2 q3;go_wp2_with (at_builtin;refine wp_appS _ _ w3 w.heap.size _ ((dm.take j).map ntxt) ⟨(Lib.itoa r1).toArray⟩ (by first|rfl|simp) ho3 hbs hlen rfl rfl rfl rfl ?_;intro v' w7 ho7 hg7 hb7);go_roundg (dm.length-(j+1))
       case measure=>omega
       case rel=>exact ⟨j+1,rfl,by omega,by simp,HA2.out,by rw[HT2.out];exact ho7,q4.trans hb7⟩
      ·have HF:=Lib.hid (HBAD.out (r1,r2) HM.out he);have he1:(r1==r2)=false:=by simp[he]
       go_wp2_with fail;refine bodyPost_ret (v:=TXV ([],false)) (by simp[results,Tryz.results109,go_sem,TXV,wBool]) rfl ?_;exact ⟨by rw[HF.out],q2⟩
     ·have d4:decide ((j:Int)<(dm.length:Int))=false:=decide_eq_false (by omega);have e1:dm.take j=dm:=List.take_of_length_le (by omega);rw[e1]at ho hall;clear e1;have HF:=Lib.hid (HYES.out hall);obtain ⟨h1,h2⟩:=ho;rcases h2 with ⟨rfl,h3⟩|⟨gb,cap,cur,rfl,hg,hbk,hcap,hmx,hcs,htk⟩
      ·exact absurd (by simpa using h3) hd1
      ·have hj2:Lib.join (dm.map fun r=>Lib.itoa r.1) [44,32]=Lib.join ((dm.map ntxt).map (·.data.toList)) (⟨#[44,32]⟩:ByteArray).data.toList:=by
        rw[List.map_map];rfl
       have hjl:(Lib.join ((dm.map ntxt).map (·.data.toList)) (⟨#[44,32]⟩:ByteArray).data.toList).length≤10000:=by
        rw[←hj2];have h1:=joinC_len 21 (dm.map fun r=>Lib.itoa r.1) (fun t ht=>by
         obtain ⟨r,hr,rfl⟩:=List.mem_map.1 ht;exact itoa_len (HR.out r hr).1)
        rw[List.length_map]at h1;omega
       have hcell:∀(j:Nat) x,(dm.map ntxt)[j]? =some x→wr.cell? ⟨gb,0+j,none⟩=some (.string x):=fun j x hx=>by
        have hjl:j<(dm.map ntxt).length:=(List.getElem?_eq_some_iff.1 hx).1;have h4:(cur.toList.take ((dm.map ntxt).length*1))[j]? =((dm.map ntxt).map Value.string)[j]? :=congrArg (fun z:List Value=>z[j]?) htk;rw[List.getElem?_take_of_lt (by omega),List.getElem?_map,hx]at h4;rw[cell_of_row wr gb _ cur 9 (0,0) hbk,Nat.zero_add];rw[Array.getElem?_toList]at h4;exact h4
       have hlt3:gb<wr.heap.size:=(Array.getElem?_eq_some_iff.1 hbk).1;rw[hj2]at HF;have HC:=Lib.hid hcell;have HN:=Lib.hid hjl;have HM:Hid ((dm.map ntxt).length≤140737488355328):=by
        show _≤_;rw[List.length_map];omega
       clear hj2 hcell hjl h1 hcs htk hbk;generalize dm.map ntxt=ts at*;go_wp2_with fail;refine (Tryz.strings_Join gb 0 cap ts _ _ HC.out hlt3 HM.out hcap (Nat.le_trans HN.out (by decide))).mono ?_;rintro e w3 ⟨rfl,q⟩;have hsz:(⟨(Lib.join (ts.map (·.data.toList)) (⟨#[44,32]⟩:ByteArray).data.toList).toArray⟩:ByteArray).size≤10000:=HN.out;have hX:(Value.tuple #[.string ((⟨#[123]⟩:ByteArray)++⟨(Lib.join (ts.map (·.data.toList)) (⟨#[44,32]⟩:ByteArray).data.toList).toArray⟩++⟨#[125]⟩),.bool true])=TXV (123::(Lib.join (ts.map (·.data.toList)) (⟨#[44,32]⟩:ByteArray).data.toList++[125]),true):=by
        have h:((⟨#[123]⟩:ByteArray)++⟨(Lib.join (ts.map (·.data.toList)) (⟨#[44,32]⟩:ByteArray).data.toList).toArray⟩++⟨#[125]⟩)=⟨(123::(Lib.join (ts.map (·.data.toList)) (⟨#[44,32]⟩:ByteArray).data.toList++[125])).toArray⟩:=by
         apply ByteArray.ext;simp
        unfold TXV;rw[h]
       have HX:=Lib.hid hX;clear hX;have qq:=hbl.trans (q.mono hbl.size);generalize (⟨(Lib.join (ts.map (·.data.toList)) (⟨#[44,32]⟩:ByteArray).data.toList).toArray⟩:ByteArray)=S at*;have hz1:¬9223372036854775807<1+S.size:=by omega
       have hz2:¬9223372036854775807<1+S.size+1:=by omega
       clear hsz;go_wp2_with fail;refine bodyPost_ret (v:= .tuple #[.string ((⟨#[123]⟩:ByteArray)++S++⟨#[125]⟩),.bool true]) (by simp[results,Tryz.results109,go_sem]) rfl ⟨?_,qq⟩;rw[HX.out,HF.out]
end Go.Proofs.YtjlhjabgclflcaaGreatDoor

/-
  Joined texts: Zj, Zk, Zl.
-/
import Derived.Test.YtjlhjabgclflcaaGreatDoorZf
import Derived.Test.YtjlhjabgclflcaaGreatDoorVn
import Derived.Test.YtjlhjabgclflcaaGreatDoorZi
import Derived.Test.YtjlhjabgclflcaaGreatDoorVx
set_option maxHeartbeats 40000000
set_option maxRecDepth 100000
set_option linter.unusedSimpArgs false
set_option linter.unusedVariables false
namespace Go.Proofs.YtjlhjabgclflcaaGreatDoor
open Go.RowKit Num Go.Joins
theorem thtext_any (o:Ot) (A3:Option Addr) (c3:Nat) (A4:Option Addr) (n4 c4:Nat) (v:Int) (hv:I64 v) (w:World) (hE:Env w):Calls Tryz.prog 25 #[thV o A3 c3 A4 n4 c4,.int .i64 v] w fun e w'=>e= .returned (.string ⟨(wordV o.bool v).toArray⟩)∧Below w.heap.size w w':=by
 obtain ⟨nm,b,arr,xs⟩:=o;unfold thV;dsimp only;have q0:=below_alloc1 w (.cells #[.string ⟨nm.toArray⟩,.bool b,.bool arr,.slice A3 xs.length c3,.slice A4 n4 c4] 56);cases b with
 |true=>
  by_cases h1:v=1
  ·subst h1;go_enter Tryz.func25,Tryz.ntmps25;go_wp2_with fail;refine (Tryz.strconv_FormatBool true _).mono ?_;rintro e w1 ⟨rfl,rfl⟩;go_wp2_with fail;refine bodyPost_ret (v:= .string ⟨(wordV true 1).toArray⟩) (by simp[results,Tryz.results25,go_sem];rfl) rfl ⟨rfl,q0⟩
  ·have h1':=int_ne0' h1;have HF:Hid (wordV true v=wFalse):=by
    show _=_;unfold wordV;rw[if_pos rfl,if_neg h1]
   clear h1;go_enter Tryz.func25,Tryz.ntmps25;go_wp2_with fail;refine (Tryz.strconv_FormatBool false _).mono ?_;rintro e w1 ⟨rfl,rfl⟩;go_wp2_with fail;refine bodyPost_ret (v:= .string ⟨wFalse.toArray⟩) (by simp[results,Tryz.results25,go_sem];rfl) rfl ⟨by rw[HF.out],q0⟩
 |false=>
  have HC:=Lib.hid (Tryz.strconv_FormatInt_10 v hv.1 hv.2 (w.alloc (.cells #[.string ⟨nm.toArray⟩,.bool false,.bool arr,.slice A3 xs.length c3,.slice A4 n4 c4] 56)) (hE.below q0).tab);go_enter Tryz.func25,Tryz.ntmps25;go_wp2_with fail;refine HC.out.mono ?_;rintro e w1 ⟨rfl,k,os,rfl⟩;have q:=below_trans q0 (Lib.below_grow _ _ (Nat.le_refl _) k os);go_wp2_with fail;refine bodyPost_ret (v:= .string ⟨(Lib.itoa v).toArray⟩) (by simp[results,Tryz.results25,go_sem]) rfl ⟨rfl,q⟩
theorem frame_arr (nm:List UInt8) (b:Bool) (xs:List Int):(⟨(headS ⟨nm,b,true,xs⟩).toArray⟩:ByteArray)=⟨nm.toArray⟩++⟨#[32,61,32,97,114,114,97,121,49,100,40,49,46,46]⟩++⟨(Lib.itoa (xs.length:Int)).toArray⟩++⟨#[44,32,91]⟩:=by
 unfold headS wArr1;apply ByteArray.ext;simp
theorem frame_one (nm:List UInt8) (b:Bool) (xs:List Int):(⟨(headS ⟨nm,b,false,xs⟩).toArray⟩:ByteArray)=⟨nm.toArray⟩++⟨#[32,61,32]⟩:=by
 unfold headS;apply ByteArray.ext;simp
def frameV (o:Ot):Value:= .tuple #[.string ⟨(headS o).toArray⟩,.string ⟨(tailS o).toArray⟩]
theorem rframe_any (o:Ot) (A3:Option Addr) (c3:Nat) (A4:Option Addr) (n4 c4:Nat) (w:World) (hE:Env w) (hnm:o.name.length≤10000) (hx:o.x.length≤10000):Calls Tryz.prog 26 #[thV o A3 c3 A4 n4 c4] w fun e w'=>e= .returned (frameV o)∧Below w.heap.size w w':=by
 obtain ⟨nm,b,arr,xs⟩:=o;unfold thV;dsimp only at*;have q0:=below_alloc1 w (.cells #[.string ⟨nm.toArray⟩,.bool b,.bool arr,.slice A3 xs.length c3,.slice A4 n4 c4] 56);cases arr with
 |false=>
  have HF:=Lib.hid (frame_one nm b xs);have hNl:=name_len hnm;unfold frameV tailS;rw[HF.out];generalize (⟨nm.toArray⟩:ByteArray)=N at*;have hz1:¬9223372036854775807<N.size+3:=by omega
  clear hNl hnm hx HF;go_enter Tryz.func26,Tryz.ntmps26;go_wp2_with fail;refine bodyPost_ret (v:= .tuple #[.string (N++⟨#[32,61,32]⟩),.string ⟨#[59,10]⟩]) (by simp[results,Tryz.results26,go_sem]) rfl ⟨rfl,q0⟩
 |true=>
  have HF:=Lib.hid (frame_arr nm b xs);have hNl:=name_len hnm;have hIl:=itoa_len (n:=(xs.length:Int)) ⟨by omega,by omega⟩;have HI:Hid (∀w':World,Env w'→Calls Tryz.prog 39 #[.int .i64 (xs.length:Int)] w' fun e w2=>e= .returned (.string ⟨(Lib.itoa (xs.length:Int)).toArray⟩)∧Below w'.heap.size w' w2):=fun w' h=>
   (Tryz.strconv_Itoa (xs.length:Int) (by omega) (by omega) w' h.tab).mono (by rintro e w2 ⟨rfl,k,os,rfl⟩;exact ⟨rfl,Lib.below_grow _ _ (Nat.le_refl _) k os⟩)
  have hIl2:(⟨(Lib.itoa (xs.length:Int)).toArray⟩:ByteArray).size≤21:=hIl;unfold frameV tailS;rw[HF.out];generalize (⟨nm.toArray⟩:ByteArray)=N at*;generalize (⟨(Lib.itoa (xs.length:Int)).toArray⟩:ByteArray)=S at*;have hz1:Hid (¬9223372036854775807<N.size+14):=by show ¬_;omega
  have hz2:Hid (¬9223372036854775807<N.size+14+S.size):=by show ¬_;omega
  have hz3:Hid (¬9223372036854775807<N.size+14+S.size+3):=by show ¬_;omega
  clear hNl hnm hx HF hIl hIl2;have M:Mem w (w.alloc (.cells #[.string N,.bool b,.bool true,.slice A3 xs.length c3,.slice A4 n4 c4] 56)) [(w.heap.size,56,#[.string N,.bool b,.bool true,.slice A3 xs.length c3,.slice A4 n4 c4])] []:=(Mem.start w).new 56 _;go_enter Tryz.func26,Tryz.ntmps26;go_wp2_with fail;refine region_st (n:=13) (frame:= ?frame1) (fun jK=>[.val (.fix (.pointer (some ⟨w.heap.size,0,none⟩))),.val (.fix (.pointer (some ⟨w.heap.size,0,none⟩))),.val (.fix (.string N)),.val (.fix (.string (N++⟨#[32,61,32,97,114,114,97,121,49,100,40,49,46,46]⟩))),.val (.fix (.pointer (some ⟨w.heap.size,0,none⟩))),.val (.fix (.pointer (some ⟨w.heap.size,3,none⟩))),.val (.fix (.slice A3 xs.length c3)),.val (.fix (.int .i64 (xs.length:Int))),.val (.fix (.string S)),.val (.fix (.string (N++⟨#[32,61,32,97,114,114,97,121,49,100,40,49,46,46]⟩++S))),.val (.fix (.string (N++⟨#[32,61,32,97,114,114,97,121,49,100,40,49,46,46]⟩++S++⟨#[44,32,91]⟩))),.val (.fix (.string (N++⟨#[32,61,32,97,114,114,97,121,49,100,40,49,46,46]⟩++S++⟨#[44,32,91]⟩))),.val (.fix (.string {data:= #[93,41,59,10]}))].getD jK .none) [] (by kernel_rfl) (by kernel_rfl) (by kernel_rfl) rfl M (fun _ h=>by cases h) (fun _ h=>by cases h) ?_ ?_ ?_
  case refine_1=>
   intro s;simp only[fr,Act.put,List.append_eq,List.cons_append,List.nil_append,List.setIfInBounds_toArray,List.set_cons_zero,List.set_cons_succ,Nat.reduceAdd];rfl
  case refine_2=>
   refine SC 0 1 rfl ?_ (SC 1 2 rfl ?_ (SC 2 3 rfl ?_ (SC 3 4 rfl ?_ (SC 4 5 rfl ?_ (SC 5 6 rfl ?_ (SC 6 7 rfl ?_ (SC 7 8 rfl ?_ (SC 8 9 rfl ?_ (SC 9 10 rfl ?_ (SC 10 11 rfl ?_ (SC 11 12 rfl ?_ (SC 12 13 rfl ?_ Steps.nil))))))))))));all_goals (intro L s w9 hN hU hi hS K hK;dsimp only at hK⊢;simp only[Act.put,List.setIfInBounds_toArray,List.set_cons_zero,List.set_cons_succ]at hK)
   ·go_simp;exact hK.out _ _ (hS.v0 rfl rfl rfl)
   ·have e0:=hS.fx 0 rfl rfl (hN.out 0 rfl);simp only[e0]at hK⊢;go_simp;exact hK.out _ _ (hS.v0 rfl rfl rfl)
   ·have e1:=hS.fx 1 rfl rfl (hN.out 1 rfl);simp only[e1]at hK⊢;obtain ⟨u1,u2,u3,u4,u5⟩:=Blk.five (hS.mem.k (i:=0) rfl);go_simp;exact hK.out _ _ (hS.v0 rfl rfl rfl)
   ·have e2:=hS.fx 2 rfl rfl (hN.out 2 rfl);simp only[e2]at hK⊢;have z1:=hz1.out;go_simp;exact hK.out _ _ (hS.v0 rfl rfl rfl)
   ·go_simp;exact hK.out _ _ (hS.v0 rfl rfl rfl)
   ·have e4:=hS.fx 4 rfl rfl (hN.out 4 rfl);simp only[e4]at hK⊢;go_simp;exact hK.out _ _ (hS.v0 rfl rfl rfl)
   ·have e5:=hS.fx 5 rfl rfl (hN.out 5 rfl);simp only[e5]at hK⊢;obtain ⟨u1,u2,u3,u4,u5⟩:=Blk.five (hS.mem.k (i:=0) rfl);go_simp;exact hK.out _ _ (hS.v0 rfl rfl rfl)
   ·have e6:=hS.fx 6 rfl rfl (hN.out 6 rfl);simp only[e6]at hK⊢;go_simp;exact hK.out _ _ (hS.v0 rfl rfl rfl)
   ·have e7:=hS.fx 7 rfl rfl (hN.out 7 rfl);simp only[e7]at hK⊢;go_simp;go_at_call 39;refine (HI.out _ (hE.below hS.mem.bel)).mono ?_;rintro e9 w10 ⟨rfl,q⟩;exact hK.out _ _ (hS.val rfl (noStore_of rfl) q rfl)
   ·have e3:=hS.fx 3 rfl rfl (hN.out 3 rfl);simp only[e3]at hK⊢;have e8:=hS.fx 8 rfl rfl (hN.out 8 rfl);simp only[e8]at hK⊢;have z1:=hz2.out;go_simp;exact hK.out _ _ (hS.v0 rfl rfl rfl)
   ·have e9:=hS.fx 9 rfl rfl (hN.out 9 rfl);simp only[e9]at hK⊢;have z1:=hz3.out;go_simp;exact hK.out _ _ (hS.v0 rfl rfl rfl)
   ·have e10:=hS.fx 10 rfl rfl (hN.out 10 rfl);simp only[e10]at hK⊢;go_simp;exact hK.out _ _ (hS.v0 rfl rfl rfl)
   ·go_simp;exact hK.out _ _ (hS.v0 rfl rfl rfl)
  intro L s w9 hall hS;have eS:s 11= .string (N++⟨#[32,61,32,97,114,114,97,121,49,100,40,49,46,46]⟩++S++⟨#[44,32,91]⟩):=hS.val_at 11 rfl (by decide) (hall 11 (by decide));have eB:s 12= .string ⟨#[93,41,59,10]⟩:=hS.val_at 12 rfl (by decide) (hall 12 (by decide));go_wp2;refine bodyPost_ret (v:= .tuple #[.string (N++⟨#[32,61,32,97,114,114,97,121,49,100,40,49,46,46]⟩++S++⟨#[44,32,91]⟩),.string ⟨#[93,41,59,10]⟩]) (by simp[results,Tryz.results26,go_sem,eS,eB]) rfl ⟨rfl,hS.mem.bel⟩
end Go.Proofs.YtjlhjabgclflcaaGreatDoor
set_option maxHeartbeats 4000000
set_option maxRecDepth 100000
set_option linter.unusedSimpArgs false
set_option linter.unusedVariables false
namespace Go.Proofs.YtjlhjabgclflcaaGreatDoor
open Go.RowKit Num Go.Joins
def wtx (b:Bool) (n:Int):ByteArray:=⟨(wordV b n).toArray⟩
theorem word_len {b:Bool} {v:Int} (h:I64 v):(wordV b v).length≤21:=by
 unfold wordV;split
 ·split<;>decide
 ·exact itoa_len h
theorem line_bytes (o:Ot) (v:List Int):(⟨(lineS o v).toArray⟩:ByteArray)=⟨(headS o).toArray⟩++⟨(Lib.join (v.map (wordV o.bool)) [44,32]).toArray⟩++⟨(tailS o).toArray⟩:=by
 unfold lineS;apply ByteArray.ext;simp
theorem head_len {o:Ot} (hnm:o.name.length≤10000) (hx:o.x.length≤10000):(headS o).length≤10100:=by
 unfold headS wArr1;have hIl:=itoa_len (n:=(o.x.length:Int)) ⟨by omega,by omega⟩;split<;>simp<;>omega
theorem tail_len (o:Ot):(tailS o).length≤4:=by
 unfold tailS;split<;>decide
theorem join_own {w:World} {base:Nat} {u:Value} {ts:List ByteArray} (h:OwnS w base u ts) (hn:ts.length≤1000000) (hl:(Lib.join (ts.map (·.data.toList)) (⟨#[44,32]⟩:ByteArray).data.toList).length≤140737488355328):Calls Tryz.prog 27 #[u,.string ⟨#[44,32]⟩] w fun e w'=>e= .returned (.string ⟨(Lib.join (ts.map (·.data.toList)) (⟨#[44,32]⟩:ByteArray).data.toList).toArray⟩)∧Below w.heap.size w w':=by
 obtain ⟨h1,h2⟩:=h;rcases h2 with ⟨rfl,h3⟩|⟨gb,cap,cur,rfl,hg,hbk2,hcap,hmx,hcs,htk⟩
 ·obtain rfl:ts=[]:=List.length_eq_zero_iff.1 h3;refine (Tryz.strings_Join_none none 0 _ _).mono ?_;rintro e w3 ⟨rfl,rfl⟩;exact ⟨rfl,Below.refl _ _⟩
 ·have hcell:∀(j:Nat) x,ts[j]? =some x→w.cell? ⟨gb,0+j,none⟩=some (.string x):=fun j x hx=>by
   have hjl:j<ts.length:=(List.getElem?_eq_some_iff.1 hx).1;have h4:(cur.toList.take (ts.length*1))[j]? =(ts.map Value.string)[j]? :=congrArg (fun z:List Value=>z[j]?) htk;rw[List.getElem?_take_of_lt (by omega),List.getElem?_map,hx]at h4;rw[cell_of_row w gb _ cur 9 (0,0) hbk2,Nat.zero_add];rw[Array.getElem?_toList]at h4;exact h4
  exact Tryz.strings_Join gb 0 cap ts _ _ hcell (Array.getElem?_eq_some_iff.1 hbk2).1 (by omega) hcap hl
theorem rline_any {F:Nat→Prop} (o:Ot) (v:List Int) (A3:Option Addr) (c3:Nat) (A4:Option Addr) (c4:Nat) (w:World) (hE:Env w) (hnm:o.name.length≤10000) (hx:o.x.length≤10000) (hl:v.length≤10000) (hr:RngN v) (hv:(layN 2).row.P F w (.slice A4 v.length c4) v):Calls Tryz.prog 16 #[thV o A3 c3 A4 v.length c4] w fun e w'=>e= .returned (.string ⟨(lineS o v).toArray⟩)∧Below w.heap.size w w':=by
 have hF:=line_bytes o v;have hT:=fun (n:Int) (hn:n∈v) (w':World) (hE':Env w')=>thtext_any o A3 c3 A4 v.length c4 n (hr n hn) w' hE';have hFr:=fun (w':World) (hE':Env w')=>rframe_any o A3 c3 A4 v.length c4 w' hE' hnm hx;have hL1:(⟨(headS o).toArray⟩:ByteArray).size≤10100:=head_len hnm hx;have hL2:(⟨(tailS o).toArray⟩:ByteArray).size≤4:=tail_len o;have hL3:(Lib.join (v.map (wordV o.bool)) [44,32]).length≤1000000:=by
  have:=joinC_len 21 (v.map (wordV o.bool)) (fun t ht=>by
   obtain ⟨x,hx,rfl⟩:=List.mem_map.1 ht;exact word_len (hr x hx))
  rw[List.length_map]at this;omega
 have HL:=Lib.hid hL3;clear hL3;unfold frameV at hFr;generalize (⟨(headS o).toArray⟩:ByteArray)=H at*;generalize (⟨(tailS o).toArray⟩:ByteArray)=T at*;obtain ⟨nm,b,arr,xs⟩:=o;unfold thV at*;dsimp only at*;have HF:=Lib.hid hF;have HT:=Lib.hid hT;have HFr:=Lib.hid hFr;clear hF hT hFr hr;have q0:=below_alloc1 w (.cells #[.string ⟨nm.toArray⟩,.bool b,.bool arr,.slice A3 xs.length c3,.slice A4 v.length c4] 56);have hb0:=Blk.new w 56 #[.string ⟨nm.toArray⟩,.bool b,.bool arr,.slice A3 xs.length c3,.slice A4 v.length c4];go_enter Tryz.func16,Tryz.ntmps16;go_wp2_with fail;go_loopg [3,11] v.length (fun k u a wr=>∃(j:Nat),k=v.length-j∧j≤v.length∧a= .int .i64 (j:Nat)∧OwnS wr (w.heap.size+1) u ((v.take j).map (wtx b))∧Blk wr w.heap.size 56 #[.string ⟨nm.toArray⟩,.bool b,.bool arr,.slice A3 xs.length c3,.slice A4 v.length c4]∧w.heap.size+1≤wr.heap.size∧Below w.heap.size w wr)
 case atStart=>exact ⟨0,rfl,Nat.zero_le _,rfl,World.ownsRow_nil _ _ _ _,hb0,by simp,q0⟩
 case round=>
  obtain ⟨j,hk,hj,rfl,ho,hbk,hsz,hbl⟩:=hrel;obtain ⟨c0,c1,c2,c3',c4'⟩:=hbk.five;by_cases hlt:j<v.length
  ·have d1:decide ((j:Int)<(v.length:Int))=true:=decide_eq_true (by omega);obtain ⟨b4,o4,hA,hb4,hc⟩:=row_n (Dt.below _ hv hbl (Nat.le_refl _)) (lt_ne hlt);have k1:=hc j hlt;subst hA;clear hc;have HM:=Lib.hid (HT.out _ (List.getElem_mem hlt));have HS:=Lib.hid (congrArg (List.map (wtx b)) (List.take_succ_eq_append_getElem hlt));have hlen:((v.take j).map (wtx b)).length≤1000000:=by rw[List.length_map,List.length_take];omega
   generalize hx1:v[j]=n at*;clear hx1;go_wp2_with fail;refine (HM.out _ (hE.below hbl)).mono ?_;rintro e w3 ⟨rfl,q3⟩;have hbl3:=below_trans hbl q3;have ho3:OwnS w3 (w.heap.size+1) _ _:=World.ownsRow.kept ho (grown_of_below q3) (Classical.em _);have hbk3:=hbk.below q3 (Nat.le_refl _);have hbs:w.heap.size+1≤w3.heap.size:=Nat.le_trans hsz q3.size;clear c0 c1 c2 c3' c4' k1;go_wp2_with (at_builtin;refine wp_appS _ _ w3 (w.heap.size+1) _ ((v.take j).map (wtx b)) (wtx b n) (by first|rfl|simp) ho3 hbs hlen rfl rfl rfl rfl ?_;intro v' w7 ho7 hg7 hb7);go_roundg (v.length-(j+1))
   case measure=>omega
   case rel=>
    refine ⟨j+1,rfl,by omega,by simp,?_,?_,Nat.le_trans hbs hb7.size,hbl3.trans (hb7.mono (by omega))⟩
    ·rw[HS.out,List.map_append];exact ho7
    ·exact (hb7.block _ (by omega)).trans hbk3
  ·have d1:decide ((j:Int)<(v.length:Int))=false:=decide_eq_false (by omega);have e1:v.take j=v:=List.take_of_length_le (by omega);rw[e1]at ho;clear e1;have hj2:Lib.join (v.map (wordV b)) [44,32]=Lib.join ((v.map (wtx b)).map (·.data.toList)) (⟨#[44,32]⟩:ByteArray).data.toList:=by
    rw[List.map_map];rfl
   go_wp2_with fail;refine (HFr.out _ (hE.below hbl)).mono ?_;rintro e w3 ⟨rfl,q3⟩;have hbl3:=below_trans hbl q3;have ho3:OwnS w3 (w.heap.size+1) _ _:=World.ownsRow.kept ho (grown_of_below q3) (Classical.em _);clear c0 c1 c2 c3' c4' ho hv;have hJ:=join_own ho3 (by rw[List.length_map];omega) (by rw[←hj2];exact Nat.le_trans HL.out (by decide));rw[←hj2]at hJ;have hL4:(⟨(Lib.join (v.map (wordV b)) [44,32]).toArray⟩:ByteArray).size≤1000000:=HL.out;generalize (⟨(Lib.join (v.map (wordV b)) [44,32]).toArray⟩:ByteArray)=J at*;have HJ:=Lib.hid hJ;have hz1:¬9223372036854775807<H.size+J.size:=by omega
   have hz2:¬9223372036854775807<H.size+J.size+T.size:=by omega
   have hz3:(H++J).size=H.size+J.size:=by simp
   clear hJ hj2 hL1 hL2 hL4 hj hk hl ho3;go_wp2_with fail;refine HJ.out.mono ?_;rintro e w4 ⟨rfl,q4⟩;go_wp2_with fail;refine bodyPost_ret (v:= .string (H++J++T)) (by simp[results,Tryz.results16,go_sem]) rfl ⟨by rw[HF.out],?_⟩;exact below_trans hbl3 q4
end Go.Proofs.YtjlhjabgclflcaaGreatDoor
set_option maxHeartbeats 4000000
set_option maxRecDepth 100000
set_option linter.unusedSimpArgs false
set_option linter.unusedVariables false
namespace Go.Proofs.YtjlhjabgclflcaaGreatDoor
open Go.RowKit Num Go.Joins
theorem right_no {outs:List Ot} {a:List Int} (h:ownO a outs=none):rightS outs a=false:=by
 unfold rightS;rw[h]
theorem right_some {outs:List Ot} {a:List Int} {vs:List (List Int)} (h:ownO a outs=some vs):rightS outs a=(decide (outs.length≤64)&& !((outs.zip vs).any fun p=> !mayS p.1 p.2)):=by
 unfold rightS;rw[h,any_bad];have hl:=ownO_len h;rw[List.map_fst_zip (by omega),List.map_snd_zip (by omega)]
theorem zip_mem {outs:List Ot} {vs:List (List Int)} {p:Ot→Prop} (h:∀o∈outs,p o):∀x∈outs.zip vs,p x.1:=fun x hx=>by
 obtain ⟨o,v⟩:=x;exact h o (List.of_mem_zip hx).1
def FewO (l:List Ot):Prop:=l.length≤100∧∀o∈l,o.name.length≤10000∧o.x.length≤100
theorem thright_any {F G:Nat→Prop} (A:Option Addr) (c:Nat) (l:List Ot) (B:Option Addr) (d:Nat) (a:List Int) (w:World) (hE:Env w) (ho:(layO 46 3).row.P F w (.slice A l.length c) l) (ha:(layN 2).row.P G w (.slice B a.length d) a) (hn:FewO l) (han:a.length≤100000):Calls Tryz.prog 11 #[.slice A l.length c,.slice B a.length d] w fun e w'=>e= .returned (.bool (rightS l a))∧Below w.heap.size w w':=by
 have HC:=Lib.hid (rthings_any A c l B d a w ho ha hn.1 (fun o ho=>(hn.2 o ho).2) han);have HN:=Lib.hid (@right_no l a);have HS:=Lib.hid (fun vs (h:ownO a l=some vs)=>right_some h);have HZ:=Lib.hid (fun vs=>zip_mem (outs:=l) (vs:=vs) (p:=fun o=>o.name.length≤10000) (fun o ho=>(hn.2 o ho).1));clear ho ha hn han;go_enter Tryz.func11,Tryz.ntmps11;go_wp2_with fail;refine HC.out.mono ?_;rintro e w1 ⟨⟨hn,rfl⟩|⟨vs,v,hv,rfl,hown⟩,q1⟩
 ·have H:=Lib.hid (HN.out hn);clear hn;go_wp2_with fail;refine bodyPost_ret (v:= .bool false) (by simp[results,Tryz.results11,go_sem]) rfl ⟨by rw[H.out],q1⟩
 ·have H:=Lib.hid (HS.out vs hv);have hz:=HZ.out vs;clear hv;generalize l.zip vs=lz at*;obtain ⟨A9,c9,rfl⟩:=Lay.own_len hown;have HH:=Lib.hid (rhas_g A9 c9 lz w1 (hE.below q1) (Lay.own_row hown) hz);clear hown hz;generalize (lz.any fun p=> !mayS p.1 p.2)=m at*;generalize hk:decide (l.length≤64)=k at*;clear hk;cases k with
  |false=>
   go_wp2_with fail;refine bodyPost_ret (v:= .bool false) (by simp[results,Tryz.results11,go_sem]) rfl ⟨by rw[H.out];rfl,q1⟩
  |true=>
   go_wp2_with fail;refine HH.out.mono ?_;rintro e w2 ⟨rfl,q2⟩;go_wp2_with fail;refine bodyPost_ret (v:= .bool (!m)) (by simp[results,Tryz.results11,go_sem]) rfl ⟨by rw[H.out];rfl,below_trans q1 q2⟩
def linesG (l:List (Ot×List Int)):List UInt8:=(l.map fun p=>lineS p.1 p.2).flatten
theorem linesG_zip:∀{outs:List Ot} {vs:List (List Int)},linesG (outs.zip vs)=linesS outs vs
 |[],_=>by unfold linesS;rfl
 |_::_,[]=>rfl
 |o::l,v::r=>by
  show linesG ((o,v)::l.zip r)=lineS o v++linesS l r;rw[←linesG_zip];rfl
theorem linesG_snoc (l:List (Ot×List Int)) (p:Ot×List Int):linesG (l++[p])=linesG l++lineS p.1 p.2:=by
 unfold linesG;simp
theorem lineS_len {o:Ot} {v:List Int} (hnm:o.name.length≤10000) (hx:o.x.length≤10000) (hl:v.length≤10000) (hr:RngN v):(lineS o v).length≤300000:=by
 unfold lineS;have h1:=head_len hnm hx;have h2:=tail_len o;have h3:=joinC_len 21 (v.map (wordV o.bool)) (fun t ht=>by
  obtain ⟨x,hx,rfl⟩:=List.mem_map.1 ht;exact word_len (hr x hx))
 rw[List.length_map]at h3;rw[List.length_append,List.length_append];omega
theorem linesG_len:∀{l:List (Ot×List Int)},(∀p∈l,(lineS p.1 p.2).length≤300000)→(linesG l).length≤300000*l.length
 |[],_=>Nat.zero_le _
 |p::l,h=>by
  have h1:=h p List.mem_cons_self;have h2:=linesG_len fun y hy=>h y (List.mem_cons_of_mem _ hy);have e:linesG (p::l)=lineS p.1 p.2++linesG l:=by simp[linesG]
  rw[e,List.length_append,List.length_cons];omega
end Go.Proofs.YtjlhjabgclflcaaGreatDoor

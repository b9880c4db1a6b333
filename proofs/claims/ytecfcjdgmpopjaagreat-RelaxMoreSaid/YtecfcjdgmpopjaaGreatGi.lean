/-
  Joined texts: Gh, Gi.
-/
import Derived.Test.YtecfcjdgmpopjaaGreatGg
set_option maxHeartbeats 4000000
set_option maxRecDepth 100000
set_option linter.unusedSimpArgs false
set_option linter.unusedVariables false
namespace Go.Proofs.YtecfcjdgmpopjaaGreat
open Go.RowKit Num
theorem index_any {w:World}{A:Option Addr}{c:Nat}{l:List Int}{g:Nat}{P:Int→Bool}(h:IRow w A l)(hs:l.length≤1000000)(he:∀(args:Array Value)(w:World),Sem.run Tryz.prog (callFunc g args) w= .ok (.enter g args) w)(HF:∀(z:Int)(w':World),Calls Tryz.prog g (#[.int .i64 z]++ #[]) w' fun e w2=>e= .returned (.bool (P z))∧Below w'.heap.size w' w2):Calls Tryz.prog 161 #[.slice A l.length c,.func (.func g) #[] #[]] w fun e w'=>∃n:Int,e= .returned (.int .i64 n)∧decide (0≤n)=l.any P∧Below w.heap.size w w':=by
 have HF:=ZH HF;have HRow:=ZH h;obtain⟨R,hR⟩:∃R,l.any P=R:=⟨_,rfl⟩;rw[hR];have HR:Hid (R=(l.drop 0).any P):=hR.symm;clear hR h;go_enter Tryz.func161,Tryz.ntmps161;go_wp2_with fail;go_loopg [8] l.length (fun k p wr=>∃j,k=l.length-j∧j≤l.length∧p= .int .i64 (j:Nat)∧Hid (R=(l.drop j).any P)∧Hid (Below w.heap.size w wr))
 case atStart=>exact⟨0,rfl,Nat.zero_le _,rfl,HR.out,Below.refl _ _⟩
 case round=>
  clear HR;obtain⟨j,hk,hj,rfl,HL,HQ⟩:=hrel;by_cases hlt:j<l.length
  ·have d1:decide ((j:Int)<(l.length:Int))=true:=dT (by omega);have HC:Hid (R=(P (l.getD j 0)||(l.drop (j+1)).any P)):=by
    show _=_;rw[HL.out,drop_at (z:=0) hlt,List.any_cons]
   obtain⟨gl,ol,rfl,cj⟩:=(HRow.out.below HQ.out) j hlt;replace cj:wr.cell? ⟨gl,ol+j,none⟩=some (.int .i64 (l.getD j 0)):=cj;generalize l.getD j 0=z at*;clear HL;go_wp2_with fail;refine(HF.out z _).mono ?_;rintro e w5 ⟨rfl,q5⟩;have HQ5:=ZH (bT HQ.out q5);clear q5 cj;cases hP:P z with
   |true=>
    have HC2:Hid (R=true):=HC.out.trans (by rw[hP];rfl);clear HC;go_wp2_with fail;exact bodyPost_ret (v:= .int .i64 (j:Nat)) (by simp[results,Tryz.results161,go_sem]) rfl ⟨_,rfl,by rw[HC2.out];exact dT (by omega),HQ5.out⟩
   |false=>
    have HC2:Hid (R=(l.drop (j+1)).any P):=HC.out.trans (by rw[hP];rfl);clear HC;go_wp2_with fail;go_roundg (l.length-(j+1))
    case measure=>omega
    case rel=>exact⟨j+1,rfl,by omega,by simp,HC2.out,HQ5.out⟩
  ·have d1:decide ((j:Int)<(l.length:Int))=false:=dF (by omega);have HC2:Hid (R=false):=HL.out.trans (by rw[drop_none hlt];rfl);clear HL;go_wp2_with fail;exact bodyPost_ret (v:= .int .i64 (-1)) (by simp[results,Tryz.results161,go_sem]) rfl ⟨_,rfl,by rw[HC2.out];rfl,HQ.out⟩
theorem contains_any {w:World}{A:Option Addr}{c:Nat}{l:List Int}{g:Nat}{P:Int→Bool}(h:IRow w A l)(hs:l.length≤1000000)(he:∀(args:Array Value)(w:World),Sem.run Tryz.prog (callFunc g args) w= .ok (.enter g args) w)(HF:∀(z:Int)(w':World),Calls Tryz.prog g (#[.int .i64 z]++ #[]) w' fun e w2=>e= .returned (.bool (P z))∧Below w'.heap.size w' w2):Calls Tryz.prog 107 #[.slice A l.length c,.func (.func g) #[] #[]] w fun e w'=>e= .returned (.bool (l.any P))∧Below w.heap.size w w':=by
 have HI:=ZH (index_any (c:=c) h hs he HF);obtain⟨R,hR⟩:∃R,l.any P=R:=⟨_,rfl⟩;rw[hR]at HI⊢;clear h HF hR;go_enter Tryz.func107,Tryz.ntmps107;go_wp2_with fail;refine HI.out.mono ?_;rintro e w1 ⟨n,rfl,hn,q1⟩;go_wp2_with fail;exact bodyPost_ret (v:= .bool R) (by simp[results,Tryz.results107,go_sem,hn]) rfl ⟨rfl,q1⟩
theorem truth_any {w:World}{A:Option Addr}{c:Nat}{l:List (Int×Int)}(h:RRow w A l)(hs:l.length≤1000000):Calls Tryz.prog 159 #[.slice A l.length c] w fun e w'=>e= .returned (.bool (truthB l))∧Below w.heap.size w w':=by
 cases l with
 |nil=>
  go_enter Tryz.func159,Tryz.ntmps159;go_wp2_with fail;exact bodyPost_ret (v:= .bool false) (by simp[results,Tryz.results159,go_sem]) rfl ⟨rfl,Below.refl _ _⟩
 |cons r l=>
  obtain⟨g,o,rfl,c0,_⟩:=h.at (j:=0) (by simp);obtain⟨g',o',e',_,c1⟩:=h.at (j:=l.length) (by simp);cases e';have e0:truthB (r::l)=(decide (0≤r.1)&&decide (((r::l).getD l.length (0,0)).2≤1)):=by
   show(decide (0≤r.1)&&decide (((r::l).getLast (by simp)).2≤1))=_;rw[List.getLast_eq_getElem,gE,gG (by simp)];rfl
  rw[e0];replace c0:w.cell? ⟨g,o,none⟩=some (.int .i64 r.1):=by simpa using c0
  rw[List.length_cons]at hs⊢;generalize ((r::l).getD l.length (0,0)).2=hi at*;generalize r.1=lo at*;generalize l.length=n at*;clear h e0;have d0:decide ((0:Int)<((n+1:Nat):Int))=true:=dT (by omega);by_cases h1:0≤lo
  ·have d1:decide (0≤lo)=true:=dT h1;have d2:decide (hi≤1)=decide (hi≤1):=rfl;go_enter Tryz.func159,Tryz.ntmps159;go_wp2_with fail;exact bodyPost_ret (v:= .bool (decide (hi≤1))) (by simp[results,Tryz.results159,go_sem]) rfl ⟨rfl,Below.refl _ _⟩
  ·have d1:decide (0≤lo)=false:=dF h1;go_enter Tryz.func159,Tryz.ntmps159;go_wp2_with fail;exact bodyPost_ret (v:= .bool false) (by simp[results,Tryz.results159,go_sem]) rfl ⟨rfl,Below.refl _ _⟩
set_option maxHeartbeats 16000000
def shC:Option Shp→Array Value
 |none=> #[iw 0,iw 0,iw 0,.bool false,iw 0]
 |some s=> #[iw s.rule,iw s.x,iw s.a,.bool s.has,iw s.bits]
theorem Blk.fiveS {w:World}{g:Nat}{t:TypeId}{a b c d e:Value}(h:Blk w g t #[a,b,c,d,e]):w.cell? ⟨g,0,none⟩=some a∧w.cell? ⟨g,1,none⟩=some b∧w.cell? ⟨g,2,none⟩=some c∧w.cell? ⟨g,3,none⟩=some d∧w.cell? ⟨g,4,none⟩=some e:=
 ⟨(h.cell 0).trans rfl,(h.cell 1).trans rfl,(h.cell 2).trans rfl,(h.cell 3).trans rfl,(h.cell 4).trans rfl⟩
theorem info_shp:(Tryz.prog.info? 202).map (·.size)=some 5:=by kernel_rfl
theorem shapes_any (k:Int)(w:World):Calls Tryz.prog 157 #[.int .i64 k] w fun e w'=>e= .returned (.tuple #[.agg (shC (shapeOf k)),.bool (shapeOf k).isSome])∧Below w.heap.size w w':=by
 have M:=(Mem.start w).new 202 (shC none);by_cases hk:1≤k∧k≤19
 ·have h:k=1∨k=2∨k=3∨k=4∨k=5∨k=6∨k=7∨k=8∨k=9∨k=10∨k=11∨k=12∨k=13∨k=14∨k=15∨k=16∨k=17∨k=18∨k=19:=by omega
  clear hk;rcases h with rfl|rfl|rfl|rfl|rfl|rfl|rfl|rfl|rfl|rfl|rfl|rfl|rfl|rfl|rfl|rfl|rfl|rfl|rfl
  all_goals
   go_enter Tryz.func157,Tryz.ntmps157;go_wp2_with ((with_reducible refine st_ ?_);refine wP2 _ _ (M.k (i:=0) rfl) rfl rfl rfl rfl info_shp rfl rfl ?_;intro w5 b5 g5';replace M:=M.row (by omega) (by simp) rfl b5 g5');obtain⟨f0,f1,f2,f3,f4⟩:=(M.k (i:=0) rfl).fiveS;exact bodyPost_ret (by simp[results,Tryz.results157,go_sem,f0,f1,f2,f3,f4];exact⟨rfl,rfl⟩) rfl ⟨rfl,M.bel⟩
 ·have hs:shapeOf k=none:=by
   unfold shapeOf;rw[if_neg (by omega),if_neg (by omega),if_neg (by omega),if_neg (by omega),if_neg (by omega),if_neg (by omega),if_neg (by omega),if_neg (by omega),if_neg (by omega),if_neg (by omega),if_neg (by omega)]
  rw[hs];have ne:∀c:Int,1≤c∧c≤19→(k==c)=false:=fun c hc=>beq_false_of_ne fun e=>hk (e▸hc);have a1:=ne 1 (by decide);have a2:=ne 2 (by decide);have a3:=ne 3 (by decide);have a4:=ne 4 (by decide);have a5:=ne 5 (by decide);have a6:=ne 6 (by decide);have a7:=ne 7 (by decide);have a8:=ne 8 (by decide);have a9:=ne 9 (by decide);have a10:=ne 10 (by decide);have a11:=ne 11 (by decide);have a12:=ne 12 (by decide);have a13:=ne 13 (by decide);have a14:=ne 14 (by decide);have a15:=ne 15 (by decide);have a16:=ne 16 (by decide);have a17:=ne 17 (by decide);have a18:=ne 18 (by decide);have a19:=ne 19 (by decide);clear ne hk hs;go_enter Tryz.func157,Tryz.ntmps157;go_wp2_with ((with_reducible refine st_ ?_);refine wP2 _ _ (M.k (i:=0) rfl) rfl rfl rfl rfl info_shp rfl rfl ?_;intro w5 b5 g5';replace M:=M.row (by omega) (by simp) rfl b5 g5');obtain⟨f0,f1,f2,f3,f4⟩:=(M.k (i:=0) rfl).fiveS;exact bodyPost_ret (v:= .tuple #[.agg (shC none),.bool false]) (by simp[results,Tryz.results157,go_sem,f0,f1,f2,f3,f4,shC]) rfl ⟨rfl,M.bel⟩
end Go.Proofs.YtecfcjdgmpopjaaGreat

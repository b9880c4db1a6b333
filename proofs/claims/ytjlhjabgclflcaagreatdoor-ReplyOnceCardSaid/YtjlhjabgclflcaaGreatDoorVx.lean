/-
  Joined texts: Vw, Bu, Vx.
-/
import Derived.Test.YtjlhjabgclflcaaGreatDoorVp
import Derived.Test.YtjlhjabgclflcaaGreatDoorVr
import Derived.Test.YtjlhjabgclflcaaGreatDoorVu
import Derived.Test.YtjlhjabgclflcaaGreatDoorVv
import Derived.Test.YtjlhjabgclflcaaGreatDoorTf
import Derived.Test.YtjlhjabgclflcaaGreatDoorShelf
import Derived.Lib.Builder
import Derived.Lib.AppendStr
import Derived.Lib.FrozenHead
import Derived.Laws.Externs
import Derived.Shelf.Strings.BuilderF
set_option maxHeartbeats 8000000
set_option maxRecDepth 100000
set_option linter.unusedSimpArgs false
set_option linter.unusedVariables false
namespace Go.Proofs.YtjlhjabgclflcaaGreatDoor
open Go.RowKit Num Go.Joins
def itA (x:It) (A3:Option Addr) (n3:Nat) (A6:Option Addr) (n6:Nat):Value:= .agg #[.int .i64 x.k,.string ⟨x.name.toArray⟩,.bool x.bool,.slice A3 x.dom.length n3,.int .i64 x.size,.bool x.out,.slice A6 x.vals.length n6,.int .i64 x.ask]
theorem itemS_1 {x:It} (h:x.k=1):itemS x=parS x:=if_pos h
theorem itemS_2 {x:It} (h:x.k=2):itemS x=varS x:=by unfold itemS;rw[if_neg (by omega),if_pos h]
theorem itemS_34 {x:It} (h:x.k=3∨x.k=4):itemS x=arrS x:=by unfold itemS;rw[if_neg (by omega),if_neg (by omega),if_pos h]
theorem itemS_5 {x:It} (h:x.k=5):itemS x=conS x:=by unfold itemS;rw[if_neg (by omega),if_neg (by omega),if_neg (by omega),if_pos h]
theorem itemS_6 {x:It} (h:x.k=6):itemS x=goalS x:=by unfold itemS;rw[if_neg (by omega),if_neg (by omega),if_neg (by omega),if_neg (by omega),if_pos h]
theorem itemS_no {x:It} (h1:¬x.k=1) (h2:¬x.k=2) (h3:¬x.k=3) (h4:¬x.k=4) (h5:¬x.k=5) (h6:¬x.k=6):itemS x=([],false):=by unfold itemS;rw[if_neg h1,if_neg h2,if_neg (by omega),if_neg h5,if_neg h6]
theorem vtext_any {F G:Nat→Prop} (x:It) (n3:Nat) (A3:Option Addr) (n6:Nat) (A6:Option Addr) (w:World) (hE:Env w) (hnm:x.name.length≤10000) (hr:RngI x) (hda:layR.row.P G w (.slice A3 x.dom.length n3) x.dom) (ha:(layE 159).row.P F w (.slice A6 x.vals.length n6) x.vals):Calls Tryz.prog 55 #[itA x A3 n3 A6 n6] w fun e w'=>e= .returned (TXV (itemS x))∧Below w.heap.size w w':=by
 obtain ⟨k,nm,b,dm,sz,o,vs,ak⟩:=x;unfold itA;dsimp only at*;have q0:=below_alloc1 w (.cells #[.int .i64 k,.string ⟨nm.toArray⟩,.bool b,.slice A3 dm.length n3,.int .i64 sz,.bool o,.slice A6 vs.length n6,.int .i64 ak] 97);have hE1:=hE.below q0;have hda1:=Dt.below _ hda q0 (Nat.le_refl _);have ha1:=Dt.below _ ha q0 (Nat.le_refl _);have HR:=Lib.hid hr;have HD:=Lib.hid hda1;have HA:=Lib.hid ha1;clear hr hda ha hda1 ha1;by_cases h1:k=1
 ·subst h1;go_enter Tryz.func55,Tryz.ntmps55;go_wp2_with fail;refine (vpar_any 1 nm b dm n3 A3 sz o vs n6 A6 ak _ hE1 hnm HR.out.2.2 HA.out).mono ?_;rintro e w1 ⟨rfl,q1⟩;have HZ:=Lib.hid (itemS_1 (x:=⟨1,nm,b,dm,sz,o,vs,ak⟩) rfl);generalize parS _=R at*;obtain ⟨t,bt⟩:=R;dsimp only[TXV];go_wp2_with fail;refine bodyPost_ret (v:=TXV (t,bt)) (by simp[results,Tryz.results55,go_sem,TXV]) rfl ⟨by rw[HZ.out],below_trans q0 q1⟩
 ·have h1':=int_ne0' h1;by_cases h2:k=2
  ·subst h2;go_enter Tryz.func55,Tryz.ntmps55;go_wp2_with fail;refine (vvar_any 2 nm b dm n3 A3 sz o vs n6 A6 ak _ hE1 hnm HR.out.2.1 HR.out.2.2 HD.out HA.out).mono ?_;rintro e w1 ⟨rfl,q1⟩;have HZ:=Lib.hid (itemS_2 (x:=⟨2,nm,b,dm,sz,o,vs,ak⟩) rfl);generalize varS _=R at*;obtain ⟨t,bt⟩:=R;dsimp only[TXV];go_wp2_with fail;refine bodyPost_ret (v:=TXV (t,bt)) (by simp[results,Tryz.results55,go_sem,TXV]) rfl ⟨by rw[HZ.out],below_trans q0 q1⟩
  ·have h2':=int_ne0' h2;by_cases h3:k=3
   ·subst h3;go_enter Tryz.func55,Tryz.ntmps55;go_wp2_with fail;refine (varr_any 3 nm b dm n3 A3 sz o vs n6 A6 ak _ hE1 hnm HR.out.1 HR.out.2.2 HA.out).mono ?_;rintro e w1 ⟨rfl,q1⟩;have HZ:=Lib.hid (itemS_34 (x:=⟨3,nm,b,dm,sz,o,vs,ak⟩) (Or.inl rfl));generalize arrS _=R at*;obtain ⟨t,bt⟩:=R;dsimp only[TXV];go_wp2_with fail;refine bodyPost_ret (v:=TXV (t,bt)) (by simp[results,Tryz.results55,go_sem,TXV]) rfl ⟨by rw[HZ.out],below_trans q0 q1⟩
   ·have h3':=int_ne0' h3;by_cases h4:k=4
    ·subst h4;go_enter Tryz.func55,Tryz.ntmps55;go_wp2_with fail;refine (varr_any 4 nm b dm n3 A3 sz o vs n6 A6 ak _ hE1 hnm HR.out.1 HR.out.2.2 HA.out).mono ?_;rintro e w1 ⟨rfl,q1⟩;have HZ:=Lib.hid (itemS_34 (x:=⟨4,nm,b,dm,sz,o,vs,ak⟩) (Or.inr rfl));generalize arrS _=R at*;obtain ⟨t,bt⟩:=R;dsimp only[TXV];go_wp2_with fail;refine bodyPost_ret (v:=TXV (t,bt)) (by simp[results,Tryz.results55,go_sem,TXV]) rfl ⟨by rw[HZ.out],below_trans q0 q1⟩
    ·have h4':=int_ne0' h4;by_cases h5:k=5
     ·subst h5;go_enter Tryz.func55,Tryz.ntmps55;go_wp2_with fail;refine (vcon_any 5 nm b dm n3 A3 sz o vs n6 A6 ak _ hE1 hnm HR.out.2.2 HA.out).mono ?_;rintro e w1 ⟨rfl,q1⟩;have HZ:=Lib.hid (itemS_5 (x:=⟨5,nm,b,dm,sz,o,vs,ak⟩) rfl);generalize conS _=R at*;obtain ⟨t,bt⟩:=R;dsimp only[TXV];go_wp2_with fail;refine bodyPost_ret (v:=TXV (t,bt)) (by simp[results,Tryz.results55,go_sem,TXV]) rfl ⟨by rw[HZ.out],below_trans q0 q1⟩
     ·have h5':=int_ne0' h5;by_cases h6:k=6
      ·subst h6;go_enter Tryz.func55,Tryz.ntmps55;go_wp2_with fail;refine (vgoal_any 6 nm b dm n3 A3 sz o vs n6 A6 ak _ hE1 hnm).mono ?_;rintro e w1 ⟨rfl,q1⟩;have HZ:=Lib.hid (itemS_6 (x:=⟨6,nm,b,dm,sz,o,vs,ak⟩) rfl);generalize goalS _=R at*;obtain ⟨t,bt⟩:=R;dsimp only[TXV];go_wp2_with fail;refine bodyPost_ret (v:=TXV (t,bt)) (by simp[results,Tryz.results55,go_sem,TXV]) rfl ⟨by rw[HZ.out],below_trans q0 q1⟩
      ·have h6':=int_ne0' h6;have HZ:=Lib.hid (itemS_no (x:=⟨k,nm,b,dm,sz,o,vs,ak⟩) h1 h2 h3 h4 h5 h6);go_enter Tryz.func55,Tryz.ntmps55;go_wp2_with fail;refine bodyPost_ret (v:=TXV ([],false)) (by simp[results,Tryz.results55,go_sem,TXV]) rfl ⟨by rw[HZ.out],q0⟩
def TEV (r:List UInt8×Int):Value:= .tuple #[.string ⟨r.1.toArray⟩,.int .i64 r.2]
theorem vright_any {F G:Nat→Prop} (x:It) (n3:Nat) (A3:Option Addr) (n6:Nat) (A6:Option Addr) (w:World) (hE:Env w) (hnm:x.name.length≤10000) (hr:RngI x) (hda:layR.row.P G w (.slice A3 x.dom.length n3) x.dom) (ha:(layE 159).row.P F w (.slice A6 x.vals.length n6) x.vals):Calls Tryz.prog 42 #[itA x A3 n3 A6 n6] w fun e w'=>e= .returned (.bool ((itemS x).2&&fitsS (itemS x).1))∧Below w.heap.size w w':=by
 have hC:=fun (w':World) (q:Below w.heap.size w w')=>vtext_any x n3 A3 n6 A6 w' (hE.below q) hnm hr (Dt.below _ hda q (Nat.le_refl _)) (Dt.below _ ha q (Nat.le_refl _));generalize itemS x=R at*;obtain ⟨t,bt⟩:=R;dsimp only[TXV]at*;have hf:fitsS (⟨t.toArray⟩:ByteArray).data.toList=fitsS t:=rfl;have HFT:=Lib.hid (vfits_any ⟨t.toArray⟩);rw[hf]at HFT;unfold itA at*;have q0:=below_alloc1 w (.cells #[.int .i64 x.k,.string ⟨x.name.toArray⟩,.bool x.bool,.slice A3 x.dom.length n3,.int .i64 x.size,.bool x.out,.slice A6 x.vals.length n6,.int .i64 x.ask] 97);have HC:=Lib.hid hC;clear hC hf hr hda ha;go_enter Tryz.func42,Tryz.ntmps42;go_wp2_with fail;refine (HC.out _ q0).mono ?_;rintro e w1 ⟨rfl,q1⟩;have q2:=below_trans q0 q1;cases bt with
 |false=>
  go_wp2_with fail;refine bodyPost_ret (v:= .bool false) (by simp[results,Tryz.results42,go_sem]) rfl ⟨rfl,q2⟩
 |true=>
  go_wp2_with fail;refine (HFT.out _ (hE.below q2)).mono ?_;rintro e w3 ⟨rfl,q3⟩;go_wp2_with fail;refine bodyPost_ret (v:= .bool (fitsS t)) (by simp[results,Tryz.results42,go_sem]) rfl ⟨rfl,below_trans q2 q3⟩
end Go.Proofs.YtjlhjabgclflcaaGreatDoor
set_option maxHeartbeats 2000000
set_option maxRecDepth 100000
set_option linter.unusedSimpArgs false
set_option linter.unusedVariables false
namespace Go.Proofs.YtjlhjabgclflcaaGreatDoor
open Go.RowKit
theorem size_bu:(Tryz.prog.info? 54).map (·.size)=some 2:=by kernel_rfl
theorem lies_bu:liesAt Tryz.prog Tryz.prog.depth 54 (2/Tryz.prog.cellsOf 54) 0 54 1=true:=by kernel_rfl
theorem info_byte:(Tryz.prog.info? 5).map (fun i=>(i.zero,i.size,i.bytes))=some (some (.int .u8 0),1,1):=by kernel_rfl
theorem copy_used (b:Nat) (w:World) (h0:w.cell? ⟨b,0,none⟩=some (.pointer (some ⟨b,0,none⟩))):Calls Tryz.prog 24 #[.pointer (some ⟨b,0,none⟩)] w fun e w'=>e= .returned (.tuple #[])∧w'=w:=by
 obtain ⟨j,hj,_⟩:=Option.map_eq_some_iff.1 size_bu;go_enter Tryz.func24,Tryz.ntmps24;go_wp2_with fail;rw[Lib.run_neq_ptr_same w _ Tryz.underlying51 hj];go_wp2_with fail;go_end0;exact ⟨rfl,rfl⟩
theorem copy_fresh (b:Nat) (w:World) (h0:w.cell? ⟨b,0,none⟩=some (.pointer none)) (hsh:w.shape? b=some (54,2)) (hfz:w.frozen? ⟨b,0,none⟩=false):Calls Tryz.prog 24 #[.pointer (some ⟨b,0,none⟩)] w fun e w'=>e= .returned (.tuple #[])∧w'=w.setCell ⟨b,0,none⟩ (.pointer (some ⟨b,0,none⟩)):=by
 obtain ⟨j,hj,hjs⟩:=Option.map_eq_some_iff.1 size_bu;go_enter Tryz.func24,Tryz.ntmps24;go_wp2_with fail;rw[Lib.run_to_unsafe w ⟨b,0,none⟩ Tryz.underlying51 Tryz.underlying87 hj (by rw[hjs];decide) hsh (Nat.zero_lt_succ 1)];simp only[Result.andThen];rw[Oper.upon_value];go_wp2_with fail;rw[run_callFunc_extern Tryz.func36 (by kernel_rfl) (by kernel_rfl) (by kernel_rfl) (e:=Extern.AbiNoEscape.same) (by kernel_rfl)];rw[Lib.run_noEscape];simp only[Result.andThen];rw[Oper.upon_value];go_wp2_with fail;rw[Lib.run_from_unsafe w ⟨b,0,none⟩ Tryz.underlying87 Tryz.underlying51 hj hsh lies_bu];simp only[Result.andThen];rw[Oper.upon_value];go_wp2_with fail;go_end0;exact ⟨rfl,rfl⟩
theorem copy_any (B b:Nat) (bs:List Value) (w:World) (h:Lib.IsBuilder 54 5 B b bs w):Calls Tryz.prog 24 #[.pointer (some ⟨b,0,none⟩)] w fun e w'=>e= .returned (.tuple #[])∧(Lib.BuilderAt 54 5 B b (.pointer (some ⟨b,0,none⟩)) bs w'∧Below B w w'):=by
 rcases h with h|h
 ·refine (copy_fresh b w h.cell0 h.shape h.frozen0).mono ?_;rintro e w' ⟨rfl,rfl⟩;exact ⟨rfl,h.used _,(Below.refl B w).setCell (p:=⟨b,0,none⟩) h.1 _⟩
 ·refine (copy_used b w h.cell0).mono ?_;rintro e w' ⟨rfl,rfl⟩;exact ⟨rfl,h,Below.refl B _⟩
theorem wstr_any (B b:Nat) (bs:List Value) (s:ByteArray) (w:World) (h:Lib.IsBuilder 54 5 B b bs w) (hlen:bs.length+s.size≤140737488355328) (hBw:B≤w.heap.size):Calls Tryz.prog 15 #[.pointer (some ⟨b,0,none⟩),.string s] w fun e w'=>e= .returned (.tuple #[.int .i64 s.size,.nilIface])∧(Lib.BuilderAt 54 5 B b (.pointer (some ⟨b,0,none⟩)) (bs++Lib.strCells s) w'∧Below B w w'):=by
 obtain ⟨i0,hi,hz0,hz1,hz2⟩:=info_parts info_byte;go_enter Tryz.func15,Tryz.ntmps15;go_wp2_with fail;refine (copy_any B b bs _ h).mono ?_;rintro e w1 ⟨rfl,h1,hb1⟩;obtain ⟨hB,v,hbk,hown,hne⟩:=h1;have c0:w1.cell? ⟨b,0,none⟩=some (.pointer (some ⟨b,0,none⟩)):=by rw[Lib.cell_of_heap hbk];rfl
 have c1:w1.cell? ⟨b,1,none⟩=some v:=by rw[Lib.cell_of_heap hbk];rfl
 go_wp2_with (at_builtin;refine Lib.wpList_append_own_string _ rfl _ _ 52 9 rfl B 5 i0 Tryz.underlying52 Tryz.underlying9 hi hz0 hz1 hz2 _ _ _ rfl hown s rfl ?c3 ?c4 ?c5 ?_)
 case c3=>unfold maxLen;omega
 case c4=>omega
 case c5=>have:=hb1.size;omega
 intro v' w2 hown' hgrow _;have hlt:b<w1.heap.size:=by
  rcases Nat.lt_or_ge b w1.heap.size with h'|h'
  ·exact h'
  ·simp[Array.getElem?_eq_none h']at hbk
 have hb2:w2.heap[b]? =some (.cells #[.pointer (some ⟨b,0,none⟩),v] 54 (0,0)):=by
  rw[hgrow.block b hlt (fun e=>hne e.symm)];exact hbk
 have d0:w2.cell? ⟨b,0,none⟩=some (.pointer (some ⟨b,0,none⟩)):=by rw[Lib.cell_of_heap hb2];rfl
 have d1:w2.cell? ⟨b,1,none⟩=some v:=by rw[Lib.cell_of_heap hb2];rfl
 have f1:w2.frozen? ⟨b,1,none⟩=false:=Lib.frozen_of_heap hb2 1;obtain ⟨ao,n',cap,rfl⟩:∃ao n' cap,v'= .slice ao n' cap:=by
  rcases hown'.2 with ⟨hv,_⟩|⟨g,cap,cur,hv,_⟩
  ·exact ⟨_,_,_,hv⟩
  ·exact ⟨_,_,_,hv⟩
 go_wp2_with fail;go_ret2;refine ⟨rfl,?_,?_⟩
 ·exact Lib.BuilderAt.put (T:=54) (e:=5) hB hb2 (bs':=bs++Lib.strCells s) (by simpa[Lib.strCells_length]using hown') (by decide)
 ·exact (hb1.grown hgrow (by have:=hb1.size;omega) (fun k hk=>(hown.lt k hk).1)).setCell (p:=⟨b,1,none⟩) hB _
end Go.Proofs.YtjlhjabgclflcaaGreatDoor
set_option linter.unusedSimpArgs false
set_option linter.unusedVariables false
namespace Go.Proofs.YtjlhjabgclflcaaGreatDoor
open Go.RowKit Num Go.Joins
def okI (x:It):Bool:=(itemS x).2&&fitsS (itemS x).1
theorem bu_below {T e:TypeId} {B b:Nat} {bs:List Value} {w w':World} (h:Lib.IsBuilder T e B b bs w) (q:Below w.heap.size w w'):Lib.IsBuilder T e B b bs w':=by
 have key:∀{p:Value},Lib.BuilderAt T e B b p bs w→Lib.BuilderAt T e B b p bs w':=fun {p} h=>by
  have hlt:=h.lt;obtain ⟨hB,v,hb,hown,hne⟩:=h;exact ⟨hB,v,by rw[q.block b hlt];exact hb,World.ownsRow.kept hown (grown_of_below q) (Classical.em _),hne⟩
 exact h.elim (fun x=> .inl (key x)) (fun x=> .inr (key x))
end Go.Proofs.YtjlhjabgclflcaaGreatDoor

import Derived.Test.YtecfcjdgmpopjaaGreatProg
import Derived.Test.YtecfcjdgmpopjaaGreatNum
import Derived.WalkKit
import Derived.WalkSpells
import Derived.WalkLawsBesides
import Derived.Outline
import Derived.Lib.Hide
import Derived.KernelRfl
import Derived.Deep.Draws
namespace Go.Proofs.YtecfcjdgmpopjaaGreat
open Go.RowKit Num
theorem ZH {p:Prop}(h:p):RowKit.Hid p:=h
def dv (d:Nat):Value:= .int .u32 d
structure Rd (w:World) (A:Option Addr) (c:Nat) (xs:List Nat):Prop where
 room:xs.length≤c
 cap:c≤maxLen
 ok:Ok xs
 at_:xs≠[]→∃b o,A=some ⟨b,o,none⟩∧b<w.heap.size∧∀j (h:j<xs.length),w.cell? ⟨b,o+j,none⟩=some (.int .u32 xs[j])
theorem Rd.below {w w':World}{A:Option Addr}{c:Nat}{xs:List Nat}{B:Nat}(h:Rd w A c xs)(hb:Below B w w')(hB:w.heap.size≤B):Rd w' A c xs:=
 ⟨h.room,h.cap,h.ok,fun hn=>by
  obtain⟨b,o,hA,hlt,hc⟩:=h.at_ hn;exact⟨b,o,hA,Nat.lt_of_lt_of_le hlt hb.size,fun j hj=>(hb.cell (p:=⟨b,o+j,none⟩) (Nat.lt_of_lt_of_le hlt hB)).trans (hc j hj)⟩⟩
theorem Rd.nil {w:World}:Rd w none 0 []:=⟨Nat.le_refl _,Nat.zero_le _,Ok.nil,fun h=>absurd rfl h⟩
theorem Rd.drew {w:World}{A:Option Addr}{c:Nat}{xs:List Nat}(h:Rd w A c xs):Rd w.drew A c xs:=⟨h.room,h.cap,h.ok,h.at_⟩
theorem Rd.alloc {w:World}{A:Option Addr}{c:Nat}{xs:List Nat}(h:Rd w A c xs)(o:Obj):Rd (w.alloc o) A c xs:=h.below ((Below.refl w.heap.size w).alloc ZL o) ZL
theorem Rd.take {w:World}{A:Option Addr}{c:Nat}{xs:List Nat}(h:Rd w A c xs)(k:Nat):Rd w A c (xs.take k):=by
 refine⟨?_,h.cap,h.ok.take k,fun hn=> ?_⟩
 ·have:=h.room;simp;omega
 ·have hx:xs≠[]:=by rintro rfl;simp at hn
  obtain⟨b,o,hA,hlt,hc⟩:=h.at_ hx;refine⟨b,o,hA,hlt,fun j hj=> ?_⟩;have hj':j<xs.length:=by simp at hj;omega
  rw[hc j hj'];simp
theorem Rd.of_own {w:World}{base n:Nat}{v:Value}{xs:List Nat}(h:w.ownsRow base 152 1 v n (xs.map dv))(ho:Ok xs):∃A c,v= .slice A xs.length c∧Rd w A c xs:=by
 obtain⟨hl,h⟩:=h;have hn:n=xs.length:=by simpa using hl.symm
 subst hn;rcases h with ⟨rfl,h0⟩|⟨g,cap,cur,rfl,hb,hg,hnc,hcm,hs,ht⟩
 ·have:xs=[]:=List.eq_nil_of_length_eq_zero h0;subst this;exact⟨none,0,rfl,Rd.nil⟩
 ·refine⟨_,cap,rfl,⟨hnc,hcm,ho,fun hn=>⟨g,0,rfl,(Array.getElem?_eq_some_iff.1 hg).1,fun j hj=> ?_⟩⟩⟩;rw[cell_of_row w g (0+j) cur 152 (0,0) hg];have h1:(cur.toList.take (xs.length*1))[j]? =(xs.map dv)[j]? :=by rw[ht]
  rw[List.getElem?_take,if_pos (by omega)]at h1;simp only[Nat.zero_add];simpa[hj,dv]using h1
def Read (w w':World):Prop:=∃k,w'=w.drewN k
theorem Read.refl (w:World):Read w w:=⟨0,rfl⟩
theorem Read.drewN {w w':World}(h:Read w w')(n:Nat):Read w (w'.drewN n):=by
 obtain⟨k,rfl⟩:=h;exact⟨k+n,World.drewN_drewN ..⟩
theorem Read.drew {w w':World}(h:Read w w'):Read w w'.drew:=h.drewN 1
theorem Read.below {w w':World}(h:Read w w')(B:Nat):Below B w w':=by
 obtain⟨k,rfl⟩:=h;exact⟨rfl,rfl,rfl,Nat.le_refl _,fun _ _=>rfl⟩
theorem Rd.drewN {w:World}{A:Option Addr}{c:Nat}{xs:List Nat}(h:Rd w A c xs)(n:Nat):Rd (w.drewN n) A c xs:=⟨h.room,h.cap,h.ok,h.at_⟩
theorem info_u32:(Tryz.prog.info? 152).map (fun i=>(i.zero,i.size,i.bytes))=some (some (.int .u32 0),1,4):=by kernel_rfl
theorem dv_oneCell (xs:List Nat):∀u∈xs.map dv,u.oneCell'=true:=by
 intro u hu;rw[List.mem_map]at hu;obtain⟨d,_,rfl⟩:=hu;rfl
def Own (w:World)(base:Nat)(v:Value)(xs:List Nat):Prop:=w.ownsRow base 152 1 v xs.length (xs.map dv)
theorem Own.nil (w:World)(base:Nat):Own w base (.slice none 0 0) []:=World.ownsRow_nil w base 152 1
theorem Own.alloc {w:World}{base:Nat}{v:Value}{xs:List Nat}(h:Own w base v xs)(o:Obj):Own (w.alloc o) base v xs:=World.ownsRow.alloc h o
theorem Own.rd {w:World}{base:Nat}{v:Value}{xs:List Nat}(h:Own w base v xs)(ho:Ok xs):∃A c,v= .slice A xs.length c∧Rd w A c xs:=Rd.of_own h ho
theorem wp_app1 {ops:Array Oper}{rest:List Oper}{o:Oper}{a:Act}{Q:Exit→Act→World→Prop}(s x:Operand)(w:World)(base:Nat)(v:Value)(xs:List Nat)(d:Nat){D:Int}(hD:D=(d:Int))(hown:Own w base v xs)(hb:base≤w.heap.size)(hlen:xs.length≤1000000)(hgd:o.guard=none)(ho:o.op= .call {callee:= .builtin .append,args:= #[s,x],argTypes:= #[53,53]})(hs:a.eval s=v)(hx:a.eval x= .slice (some ⟨w.heap.size,0,none⟩) 1 1)(K:∀v' w',Own w' base v' (xs++[d])→w.grownBy w' v.ownBlock→Below base w w'→wpList Tryz.prog ops Q rest (a.put o.dst v') w'):wpList Tryz.prog ops Q (o::rest) a (w.alloc (.cells #[.int .u32 D] 152)):=by
 subst hD;obtain⟨i0,hi,hz0,hz1,hz2⟩:=info_parts info_u32;have hsz:(w.alloc (.cells #[.int .u32 (d:Int)] 152)).heap.size=w.heap.size+1:=by simp
 refine wpList_append_own _ hgd s x 53 ho base 152 i0 (.int .u32 0) 1 4 Tryz.underlying53 hi hz0 hz1 hz2 rfl (by decide) v xs.length (xs.map dv) hs (hown.alloc _) ⟨w.heap.size,0,none⟩ 1 1 [dv d] hx rfl
  ?_ ?_ ?_ ?_ ?_ ?_
 ·intro j u hj;match j,hj with
  |0,hj=>
   simp at hj;subst hj;simp[Addr.add,dv]
 ·intro u hu;simp at hu;subst hu;rfl
 ·unfold maxLen;omega
 ·omega
 ·rw[hsz];omega
 ·intro v' w' h1 h2 _;have hg:w.grownBy w' v.ownBlock:=⟨h2.os,h2.tape,h2.output,by have:=h2.size;rw[hsz]at this;omega,fun k hk hne=>by
   rw[h2.block k (by rw[hsz];omega) hne];exact Below.heap_alloc w _ k hk⟩
  refine K v' w' ?_ hg ?_
  ·unfold Own;simpa using h1
  ·refine(Below.refl base w).grown hg hb (fun k hk=>(hown.lt k hk).1)
def Row (w:World)(g:Nat)(xs:List Nat):Prop:=w.heap[g]? =some (.cells (xs.map dv).toArray 152 (0,0))
theorem Row.lt {w:World}{g:Nat}{xs:List Nat}(h:Row w g xs):g<w.heap.size:=(Array.getElem?_eq_some_iff.1 h).1
theorem Row.cell {w:World}{g:Nat}{xs:List Nat}(h:Row w g xs){i:Nat}(hi:i<xs.length):w.cell? ⟨g,i,none⟩=some (.int .u32 xs[i]):=by
 rw[cell_of_row w g i _ 152 (0,0) h];simp[hi,dv]
theorem Row.frozen {w:World}{g:Nat}{xs:List Nat}(h:Row w g xs)(i:Nat):w.frozen? ⟨g,i,none⟩=false:=by
 unfold Row at h;simp[World.frozen?,h]
theorem Row.set {w:World}{g:Nat}{xs:List Nat}(h:Row w g xs)(i:Nat)(d:Nat){D:Int}(hD:D=(d:Int)):Row (w.setCell ⟨g,i,none⟩ (.int .u32 D)) g (xs.set i d):=by
 subst hD;unfold Row at h⊢;simp[World.setCell,Array.getElem?_modify,h,dv,List.map_set]
theorem Row.far {w:World}{g:Nat}{xs:List Nat}(h:Row w g xs){p:Addr}(hp:g≠p.block)(u:Value):Row (w.setCell p u) g xs:=(Below.heap_setCell w p u g hp).trans h
theorem Row.drewN {w:World}{g:Nat}{xs:List Nat}(h:Row w g xs)(n:Nat):Row (w.drewN n) g xs:=h
theorem Row.below {w w':World}{g:Nat}{xs:List Nat}(h:Row w g xs){B:Nat}(hb:Below B w w')(hB:w.heap.size≤B):Row w' g xs:=(hb.block g (Nat.lt_of_lt_of_le h.lt hB)).trans h
theorem Row.rd {w:World}{g:Nat}{xs:List Nat}(h:Row w g xs)(ho:Ok xs)(hl:xs.length≤1000000):Rd w (some ⟨g,0,none⟩) xs.length xs:=
 ⟨Nat.le_refl _,by unfold maxLen;omega,ho,fun _=>⟨g,0,rfl,h.lt,fun j hj=>by rw[Nat.zero_add];exact h.cell hj⟩⟩
theorem wp_make0 {ops:Array Oper}{rest:List Oper}{o:Oper}{a:Act}{Q:Exit→Act→World→Prop}(l c:Operand)(w:World)(n:Nat){C:Int}(hC:C=(n:Int))(hn:n≤1000000)(hgd:o.guard=none)(ho:o.op=Op.makeSlice 53 l c)(hl:a.eval l= .int .i64 0)(hc:a.eval c= .int .i64 C)(K:∀w',Own w' w.heap.size (.slice (some ⟨w.heap.size,0,none⟩) 0 n) []→Below w.heap.size w w'→wpList Tryz.prog ops Q rest (a.put o.dst (.slice (some ⟨w.heap.size,0,none⟩) 0 n)) w'):wpList Tryz.prog ops Q (o::rest) a w:=by
 obtain⟨i0,hi,hz0,hz1,hz2⟩:=info_parts info_u32;refine wpList_make_own _ hgd l c 53 ho w.heap.size 152 i0 (.int .u32 0) 1 Tryz.underlying53 hi hz0 hz1 .i64 .i64 C n hl hc hC (by rw[hz2];omega) (by unfold maxLen;omega) ZL ?_;intro w' h1 h2;exact K w' h1 ((Below.refl _ _).grown h2 ZL (by intro k hk;cases hk))
theorem wp_makeN {ops:Array Oper}{rest:List Oper}{o:Oper}{a:Act}{Q:Exit→Act→World→Prop}(l c:Operand)(w:World)(n:Nat){C D:Int}(hC:C=(n:Int))(hD:D=(n:Int))(hn:n≤1000000)(hgd:o.guard=none)(ho:o.op=Op.makeSlice 53 l c)(hl:a.eval l= .int .i64 D)(hc:a.eval c= .int .i64 C)(K:∀w',Row w' w.heap.size (List.replicate n 0)→Below w.heap.size w w'→wpList Tryz.prog ops Q rest (a.put o.dst (.slice (some ⟨w.heap.size,0,none⟩) n n)) w'):wpList Tryz.prog ops Q (o::rest) a w:=by
 obtain⟨i0,hi,hz0,hz1,hz2⟩:=info_parts info_u32;refine wpList_make_full _ hgd l c 53 ho w.heap.size 152 i0 (.int .u32 0) 1 Tryz.underlying53 hi hz0 hz1 .i64 .i64 D C n hl hc hD hC (by rw[hz2];omega) (by unfold maxLen;omega) ZL ?_;intro w' h1 h2;refine K w' ?_ ((Below.refl _ _).grown h2 ZL (by intro k hk;cases hk));rcases h1.2 with ⟨hv,_⟩|⟨g,cap,cur,hv,_,hg,_,_,hs,ht⟩
 ·cases hv
 ·have hg1:g=w.heap.size∧cap=n:=by
   injection hv with hv _ hcap;injection hv with hv;injection hv with hv;exact⟨hv.symm,hcap.symm⟩
  obtain⟨rfl,rfl⟩:=hg1;rw[Nat.mul_one]at hs ht;have e:(Value.int .u32 0).cells= #[Value.int .u32 0]:=rfl;rw[e,toList_madeCells_one,List.take_of_length_le (by simp;omega)]at ht;have hcur:cur=((List.replicate cap 0).map dv).toArray:=by
   have h3:cur=cur.toList.toArray:=by simp
   rw[h3,ht,List.map_replicate];rfl
  subst hcur;exact hg
def RetS (w w':World)(e:Ending)(ys:List Nat):Prop:=(∃A c,e= .returned (.slice A ys.length c)∧Rd w' A c ys)∧Below w.heap.size w w'
def RetSE (w w':World)(e:Ending)(r:List Nat×Int):Prop:=(∃A c,e= .returned (.tuple #[.slice A r.1.length c,.int .i64 r.2])∧Rd w' A c r.1)∧Below w.heap.size w w'
end Go.Proofs.YtecfcjdgmpopjaaGreat

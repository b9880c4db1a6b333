/-
  Joined texts: Cf, Ci.
-/
import Derived.Test.YtjlhjabgclflcaaGreatDoorCe
import Derived.Test.YtjlhjabgclflcaaGreatDoorZn
import Derived.Test.YtjlhjabgclflcaaGreatDoorZr
import Derived.Deep.RegionHeld3
import Derived.BigQuiet
set_option maxHeartbeats 8000000
set_option maxRecDepth 100000
set_option linter.unusedSimpArgs false
set_option linter.unusedVariables false
namespace Go.Proofs.YtjlhjabgclflcaaGreatDoor
open Go.RowKit Num Go.Joins
def oA:Ot:=⟨[120],false,false,[0]⟩
def oB:Ot:=⟨[98],true,false,[1]⟩
def oC:Ot:=⟨[120,115],false,true,[0,0]⟩
def wantS:List UInt8:=[120,32,61,32,51,59,10,98,32,61,32,116,114,117,101,59,10,120,115,32,61,32,97,114,114,97,121,49,100,40,49,46,46,50,44,32,91,51,44,32,51,93,41,59,10,45,45,45,45,45,45,45,45,45,45,10]
def badS:List UInt8:=[120,32,61,32,48,51,59,10,45,45,45,45,45,45,45,45,45,45,10]
theorem rep_A:replyT [oA,oB,oC] 2 [3,1]=(wantS,0):=by kernel_rfl
theorem read_A:readS [oA,oB,oC] wantS=(2,[[3],[1],[3,3]],0):=by kernel_rfl
theorem read_B:readS [oA] badS=(0,[],5):=by kernel_rfl
theorem right_A:rightS [oA,oB,oC] [3,1]=true:=by kernel_rfl
theorem row_blk {α:Type} (L:Lay α) {w:World} {g:Nat} {t:TypeId} {cs:Array Value} {l:List α} {c:Nat} (h:Blk w g t cs) (hl:l.length≤c) (hc:c≤maxLen) (hx:∀j (hj:j<l.length) k,k<L.sz→∃x,cs[j*L.sz+k]? =some x∧(L.C k).P (fun _=>True) w x l[j]):L.row.P (fun _=>True) w (.slice (some ⟨g,0,none⟩) l.length c) l:=
 ⟨_,_,rfl,hl,hc,fun _=>⟨g,0,rfl,trivial,h.lt,fun j hj k hk=>by
  obtain ⟨x,h1,h2⟩:=hx j hj k hk;refine ⟨x,?_,h2⟩;rw[h.cell,Nat.zero_add];exact h1⟩⟩
theorem rown_1 {ty t:TypeId} {w:World} {g:Nat} {a:Int} (h:Blk w g t #[.int .i64 a]):(layN ty).row.P (fun _=>True) w (.slice (some ⟨g,0,none⟩) 1 1) [a]:=
 row_blk (layN ty) (l:=[a]) h (Nat.le_refl _) (by decide) fun j hj k hk=>by
  obtain rfl:j=0:=by
   have:j<1:=hj;omega
  obtain rfl:k=0:=by
   have:k<1:=hk;omega
  exact ⟨_,rfl,rfl⟩
theorem rown_2 {ty t:TypeId} {w:World} {g:Nat} {a b:Int} (h:Blk w g t #[.int .i64 a,.int .i64 b]):(layN ty).row.P (fun _=>True) w (.slice (some ⟨g,0,none⟩) 2 2) [a,b]:=
 row_blk (layN ty) (l:=[a,b]) h (Nat.le_refl _) (by decide) fun j hj k hk=>by
  obtain rfl:k=0:=by
   have:k<1:=hk;omega
  have hj2:j=0∨j=1:=by
   have:j<2:=hj;omega
  rcases hj2 with rfl|rfl
  ·exact ⟨_,rfl,rfl⟩
  ·exact ⟨_,rfl,rfl⟩
abbrev outCells (g0 g1 g2:Nat):Array Value:= #[.string ⟨#[120]⟩,.bool false,.bool false,.slice (some ⟨g0,0,none⟩) 1 1,.string ⟨#[98]⟩,.bool true,.bool false,.slice (some ⟨g1,0,none⟩) 1 1,.string ⟨#[120,115]⟩,.bool false,.bool true,.slice (some ⟨g2,0,none⟩) 2 2]
theorem rowo_3 {ty tx t:TypeId} {w:World} {g g0 g1 g2:Nat} (h:Blk w g t (outCells g0 g1 g2)) (h0:(layN tx).row.P (fun _=>True) w (.slice (some ⟨g0,0,none⟩) 1 1) [0]) (h1:(layN tx).row.P (fun _=>True) w (.slice (some ⟨g1,0,none⟩) 1 1) [1]) (h2:(layN tx).row.P (fun _=>True) w (.slice (some ⟨g2,0,none⟩) 2 2) [0,0]):(layO ty tx).row.P (fun _=>True) w (.slice (some ⟨g,0,none⟩) 3 3) [oA,oB,oC]:=
 row_blk (layO ty tx) (l:=[oA,oB,oC]) h (Nat.le_refl _) (by decide) fun j hj k hk=>by
  have hj2:j=0∨j=1∨j=2:=by
   have:j<3:=hj;omega
  have hk2:k=0∨k=1∨k=2∨k=3:=by
   have:k<4:=hk;omega
  rcases hj2 with rfl|rfl|rfl<;>rcases hk2 with rfl|rfl|rfl|rfl
  all_goals first
   |exact ⟨_,rfl,rfl⟩
   |exact ⟨_,rfl,h0⟩
   |exact ⟨_,rfl,h1⟩
   |exact ⟨_,rfl,h2⟩
theorem rowo_1 {ty tx t:TypeId} {w:World} {g g0 g1 g2:Nat} (h:Blk w g t (outCells g0 g1 g2)) (h0:(layN tx).row.P (fun _=>True) w (.slice (some ⟨g0,0,none⟩) 1 1) [0]):(layO ty tx).row.P (fun _=>True) w (.slice (some ⟨g,0,none⟩) 1 3) [oA]:=
 row_blk (layO ty tx) (l:=[oA]) h (by decide) (by decide) fun j hj k hk=>by
  obtain rfl:j=0:=by
   have:j<1:=hj;omega
  have hk2:k=0∨k=1∨k=2∨k=3:=by
   have:k<4:=hk;omega
  rcases hk2 with rfl|rfl|rfl|rfl
  all_goals first
   |exact ⟨_,rfl,rfl⟩
   |exact ⟨_,rfl,h0⟩
theorem few_A:FewO [oA,oB,oC]:=⟨by decide,by decide⟩
theorem few_B:FewO [oA]:=⟨by decide,by decide⟩
theorem rng_31:RngN [3,1]:=by
 intro n hn;have:n=3∨n=1:=by simpa using hn
 rcases this with rfl|rfl<;>(constructor<;>decide)
theorem alive23_any (w:World) (hE:EnvM w):Calls Tryz.prog 6 #[] w fun e w'=>e= .returned (.bool true)∧Below w.heap.size w w':=by
 have M:Mem w ((((w.alloc (.cells #[.int .i64 0] 3)).alloc (.cells #[.int .i64 1] 3)).alloc (.cells #[.int .i64 0,.int .i64 0] 3)).alloc (.cells (outCells w.heap.size (w.heap.size+1) (w.heap.size+2)) 46)) [(w.heap.size+3,46,outCells w.heap.size (w.heap.size+1) (w.heap.size+2)),(w.heap.size+2,3,#[.int .i64 0,.int .i64 0]),(w.heap.size+1,3,#[.int .i64 1]),(w.heap.size,3,#[.int .i64 0])] []:=
  ((((Mem.start w).new 3 #[.int .i64 0]).newAt (by simp) 3 #[.int .i64 1]).newAt (by simp) 3 #[.int .i64 0,.int .i64 0]).newAt (by simp) 46 (outCells w.heap.size (w.heap.size+1) (w.heap.size+2))
 have HRow:Hid (∀(w':World),Mem w w' [(w.heap.size+3,46,outCells w.heap.size (w.heap.size+1) (w.heap.size+2)),(w.heap.size+2,3,#[.int .i64 0,.int .i64 0]),(w.heap.size+1,3,#[.int .i64 1]),(w.heap.size,3,#[.int .i64 0])] []→(layO 46 3).row.P (fun _=>True) w' (.slice (some ⟨w.heap.size+3,0,none⟩) 3 3) [oA,oB,oC]∧(layO 46 3).row.P (fun _=>True) w' (.slice (some ⟨w.heap.size+3,0,none⟩) 1 3) [oA]):=fun w' h=>
  ⟨rowo_3 (h.k (i:=0) rfl) (rown_1 (h.k (i:=3) rfl)) (rown_1 (h.k (i:=2) rfl)) (rown_2 (h.k (i:=1) rfl)),rowo_1 (h.k (i:=0) rfl) (rown_1 (h.k (i:=3) rfl))⟩
 have HT:Hid (∀(w':World) (g:Nat),Mem w w' [(w.heap.size+3,46,outCells w.heap.size (w.heap.size+1) (w.heap.size+2)),(w.heap.size+2,3,#[.int .i64 0,.int .i64 0]),(w.heap.size+1,3,#[.int .i64 1]),(w.heap.size,3,#[.int .i64 0])] []→Blk w' g 2 #[.int .i64 3,.int .i64 1]→Calls Tryz.prog 8 #[.slice (some ⟨w.heap.size+3,0,none⟩) 3 3,.agg #[.int .i64 2,.slice (some ⟨g,0,none⟩) 2 2,.int .i64 0]] w' fun e w2=>e= .returned (.tuple #[.string ⟨wantS.toArray⟩,.int .i64 0])∧Below w'.heap.size w' w2):=fun w' g h hg=>by
  have:=rtxt_any (some ⟨w.heap.size+3,0,none⟩) 3 [oA,oB,oC] 2 (some ⟨g,0,none⟩) 2 [3,1] 0 w' (hE.env.below h.bel) (HRow.out w' h).1 (rown_2 hg) few_A (by decide) rng_31;rw[rep_A]at this;exact this
 have HRt:Hid (∀(w':World) (g:Nat),Mem w w' [(w.heap.size+3,46,outCells w.heap.size (w.heap.size+1) (w.heap.size+2)),(w.heap.size+2,3,#[.int .i64 0,.int .i64 0]),(w.heap.size+1,3,#[.int .i64 1]),(w.heap.size,3,#[.int .i64 0])] []→Blk w' g 2 #[.int .i64 3,.int .i64 1]→Calls Tryz.prog 11 #[.slice (some ⟨w.heap.size+3,0,none⟩) 3 3,.slice (some ⟨g,0,none⟩) 2 2] w' fun e w2=>e= .returned (.bool true)∧Below w'.heap.size w' w2):=fun w' g h hg=>by
  have:=thright_any (some ⟨w.heap.size+3,0,none⟩) 3 [oA,oB,oC] (some ⟨g,0,none⟩) 2 [3,1] w' (hE.env.below h.bel) (HRow.out w' h).1 (rown_2 hg) few_A (by decide);rw[right_A]at this;exact this
 have HRa:Hid (∀(w':World),Mem w w' [(w.heap.size+3,46,outCells w.heap.size (w.heap.size+1) (w.heap.size+2)),(w.heap.size+2,3,#[.int .i64 0,.int .i64 0]),(w.heap.size+1,3,#[.int .i64 1]),(w.heap.size,3,#[.int .i64 0])] []→Calls Tryz.prog 13 #[.slice (some ⟨w.heap.size+3,0,none⟩) 3 3,.string ⟨wantS.toArray⟩] w' fun e w2=>(∃A c,e= .returned (.tuple #[.agg #[.int .i64 2,.slice A 3 c],.int .i64 0])∧(layV 23 2).row.P (since w'.heap.size w2) w2 (.slice A 3 c) [[3],[1],[3,3]])∧Below w'.heap.size w' w2):=fun w' h=>by
  refine (rreadall_any (some ⟨w.heap.size+3,0,none⟩) 3 [oA,oB,oC] ⟨wantS.toArray⟩ (by decide) w' (hE.below h.bel) (HRow.out w' h).1 few_A).mono ?_;rintro e w2 ⟨⟨V,rfl,hV,-⟩,q⟩;have e1:readS [oA,oB,oC] (⟨wantS.toArray⟩:ByteArray).data.toList=(2,[[3],[1],[3,3]],0):=read_A;rw[e1]at hV⊢;obtain ⟨A,c,hVe⟩:=Lay.row_len hV;dsimp only at hV hVe;subst hVe;exact ⟨⟨A,c,rfl,hV⟩,q⟩
 have HRb:Hid (∀(w':World),Mem w w' [(w.heap.size+3,46,outCells w.heap.size (w.heap.size+1) (w.heap.size+2)),(w.heap.size+2,3,#[.int .i64 0,.int .i64 0]),(w.heap.size+1,3,#[.int .i64 1]),(w.heap.size,3,#[.int .i64 0])] []→Calls Tryz.prog 13 #[.slice (some ⟨w.heap.size+3,0,none⟩) 1 3,.string ⟨badS.toArray⟩] w' fun e w2=>(∃A c,e= .returned (.tuple #[.agg #[.int .i64 0,.slice A 0 c],.int .i64 5]))∧Below w'.heap.size w' w2):=fun w' h=>by
  refine (rreadall_any (some ⟨w.heap.size+3,0,none⟩) 3 [oA] ⟨badS.toArray⟩ (by decide) w' (hE.below h.bel) (HRow.out w' h).2 few_B).mono ?_;rintro e w2 ⟨⟨V,rfl,hV,-⟩,q⟩;have e1:readS [oA] (⟨badS.toArray⟩:ByteArray).data.toList=(0,[],5):=read_B;rw[e1]at hV⊢;obtain ⟨A,c,hVe⟩:=Lay.row_len hV;dsimp only at hVe;subst hVe;exact ⟨⟨A,c,rfl⟩,q⟩
 unfold wantS badS at*;clear HRow;go_enter Tryz.func6,Tryz.ntmps6;go_wp2_with fail;have M1:=M.newAt (g:=w.heap.size+4) (by simp) 2 #[.int .i64 3,.int .i64 1];refine (HT.out _ (w.heap.size+4) M1.tailK (M1.k (i:=0) rfl)).mono ?_;rintro e w6 ⟨rfl,q1⟩;have M2:=M1.tailK.below q1;clear M M1 q1 HT;go_wp2_with fail;refine (HRa.out _ M2).mono ?_;rintro e w7 ⟨⟨A,c,rfl,hV⟩,q2⟩;have M3:=M2.below q2;clear M2 q2 HRa;have hx7:=Blk.new w7 40 #[.int .i64 2,.slice A 3 c];have q3:=below_alloc1 w7 (.cells #[.int .i64 2,.slice A 3 c] 40);have M4:=M3.below q3;have hV7:=Dt.below _ hV q3 (Nat.le_refl _);clear hV M3 q3;go_wp2_with fail;refine (HRb.out _ M4).mono ?_;rintro e w8 ⟨⟨A0,c0,rfl⟩,q4⟩;have M5:=M4.below q4;have hx8:=hx7.below q4 (Nat.le_refl _);have hV8:=Dt.below _ hV7 q4 (Nat.le_refl _);clear M4 q4 HRb hx7 hV7;have q5:=below_alloc1 w8 (.cells #[.int .i64 0,.slice A0 0 c0] 40);have M6:=M5.below q5;have hx9:=hx8.below q5 (Nat.le_refl _);have hV9:=Dt.below _ hV8 q5 (Nat.le_refl _);clear M5 q5 hx8 hV8;go_upto_region 6 with fail;generalize w8.alloc (.cells #[.int .i64 0,.slice A0 0 c0] 40)=W9 at*;obtain ⟨x0,x1,_,_⟩:=hx9.both;obtain ⟨b,o,rfl,hb1,hc⟩:=row_v hV9 (by simp);obtain ⟨A3,c3,k0,hr⟩:=hc 2 (by decide);obtain ⟨b4,o4,hA4,hb4,hc4⟩:=row_n hr (by simp);have k1:=hc4 1 (by decide);subst hA4;replace k0:W9.cell? ⟨b,o+2,none⟩=some (.slice (some ⟨b4,o4,none⟩) 2 c3):=k0;replace k1:W9.cell? ⟨b4,o4+1,none⟩=some (.int .i64 3):=k1;have M7:=M6.new 2 #[.int .i64 3,.int .i64 1];clear hc hc4 hr hV9 M6;go_wp2_with fail;refine (HRt.out _ _ M7.tailK (M7.k (i:=0) rfl)).mono ?_;rintro e w10 ⟨rfl,q6⟩;go_wp2_with fail;go_ret;exact ⟨rfl,below_trans M7.bel q6⟩
end Go.Proofs.YtjlhjabgclflcaaGreatDoor
set_option maxHeartbeats 8000000
set_option maxRecDepth 100000
set_option linter.unusedSimpArgs false
set_option linter.unusedVariables false
namespace Go.Proofs.YtjlhjabgclflcaaGreatDoor
open Go.RowKit Num Go.Joins
theorem valO_some {a:List Int} {i n:Int} (h:valO a i=some n):∃m:Nat,i=(m:Int)∧∃hm:m<a.length,a[m]=n:=by
 unfold valO at h;split at h
 ·rename_i h0;obtain ⟨hm,e⟩:=List.getElem?_eq_some_iff.1 h;exact ⟨i.toNat,by omega,hm,e⟩
 ·cases h
theorem valsO_at {a:List Int}:∀{xs v:List Int},valsO a xs=some v→∀i (h1:i<xs.length) (h2:i<v.length),valO a xs[i]=some v[i]
 |[],v,h,i,h1,h2=>by cases h1
 |x::xs,v,h,i,h1,h2=>by
  have h':(valO a x).bind (fun v=>(valsO a xs).map (v::·))=some v:=h;cases hx:valO a x with
  |none=>rw[hx]at h';cases h'
  |some n=>
   rw[hx,Option.bind_some]at h';cases hv:valsO a xs with
   |none=>rw[hv]at h';cases h'
   |some u=>
    rw[hv]at h';obtain rfl:=Option.some.inj h';cases i with
    |zero=>exact hx
    |succ i=>exact valsO_at hv i (by simpa using h1) (by simpa using h2)
theorem ownO_at {a:List Int} {l:List Ot} {vs:List (List Int)} (h:ownO a l=some vs) (i:Nat) (h1:i<l.length) (h2:i<vs.length):valsO a l[i].x=some vs[i]:=by
 have hm:(l[i],vs[i])∈l.zip vs:=by
  have hz:i<(l.zip vs).length:=by rw[List.length_zip];omega
  have:=List.getElem_mem hz;rw[List.getElem_zip]at this;exact this
 exact ownO_mem h _ hm
theorem theirs_text (w:World) (hE:EnvM w) (A:Option Addr) (l:List Ot) (c:Nat) (ho:(layO 45 3).row.P (fun _=>True) w (.slice A l.length c) l) (k:Int) (B:Option Addr) (a:List Int) (d:Nat) (nodes:Int) (ha:(layN 2).row.P (fun _=>True) w (.slice B a.length d) a) (har:RngN a) (hf:fitsO l a.length=true):(∀w':World,Below w.heap.size w w'→Calls Tryz.prog 9 #[.slice A l.length c] w' fun e w2=>(∃A' c',e= .returned (.slice A' l.length c')∧(layO 46 3).row.P (fun _=>True) w2 (.slice A' l.length c') l)∧Below w'.heap.size w' w2)∧(∀(w':World) (A':Option Addr) (c':Nat),Below w.heap.size w w'→(layO 46 3).row.P (fun _=>True) w' (.slice A' l.length c') l→Calls Tryz.prog 8 #[.slice A' l.length c',.agg #[.int .i64 k,.slice B a.length d,.int .i64 nodes]] w' fun e w2=>e= .returned (.tuple #[.string ⟨(replyT l k a).1.toArray⟩,.int .i64 (replyT l k a).2])∧Below w'.heap.size w' w2)∧(∀(w':World) (A':Option Addr) (c':Nat) (s:ByteArray),s.size≤8192→Below w.heap.size w w'→(layO 46 3).row.P (fun _=>True) w' (.slice A' l.length c') l→Calls Tryz.prog 13 #[.slice A' l.length c',.string s] w' fun e w2=>ReadAll w' (readS l s.data.toList) e w2∧Below w'.heap.size w' w2):=by
 obtain ⟨hfew,hnm,han⟩:=fits_few hf;refine ⟨fun w' q=> ?_,fun w' A' c' q h=> ?_,fun w' A' c' s hs q h=> ?_⟩
 ·exact theirs23_any A c l w' (Dt.below _ ho q (Nat.le_refl _)) (Nat.le_trans hfew.1 (by decide))
 ·exact rtxt_any A' c' l k B d a nodes w' (hE.env.below q) h (Dt.below _ ha q (Nat.le_refl _)) hfew (Nat.le_trans han (by decide)) har
 ·exact rreadall_any A' c' l s hs w' (hE.below q) h hfew
theorem verS_keep {w w' w2:World} {k nodes:Int} {B:Option Addr} {n d:Nat} (h:Below w.heap.size w w'∧Blk w' w.heap.size 25 #[.int .i64 k,.slice B n d,.int .i64 nodes]∧w'.cell? ⟨w.heap.size,0,none⟩=some (.int .i64 k)∧w'.cell? ⟨w.heap.size,1,none⟩=some (.slice B n d)) (q:Below w'.heap.size w' w2):Below w.heap.size w w2∧Blk w2 w.heap.size 25 #[.int .i64 k,.slice B n d,.int .i64 nodes]∧w2.cell? ⟨w.heap.size,0,none⟩=some (.int .i64 k)∧w2.cell? ⟨w.heap.size,1,none⟩=some (.slice B n d):=by
 have hb:=h.2.1.below q (Nat.le_refl _);obtain ⟨e0,e1,_⟩:=hb.three;exact ⟨below_trans h.1 q,hb,e0,e1⟩
theorem replyBack_use (w:World) (hE:EnvM w) (A:Option Addr) (l:List Ot) (c:Nat) (ho:(layO 45 3).row.P (fun _=>True) w (.slice A l.length c) l) (hro:∀x∈l,RngO x) (k:Int) (B:Option Addr) (a:List Int) (d:Nat) (nodes:Int) (ha:(layN 2).row.P (fun _=>True) w (.slice B a.length d) a) (har:RngN a):Calls Tryz.prog 4 #[.slice A l.length c,verV k B a.length d nodes] w fun e w'=>e= .returned (.bool true)∧Below w.heap.size w w':=by
 have q0:=below_alloc1 w (.cells #[.int .i64 k,.slice B a.length d,.int .i64 nodes] 25);have hb0:=Blk.new w 25 #[.int .i64 k,.slice B a.length d,.int .i64 nodes];unfold verV;have HA:=Lib.hid (alive23_any _ (hE.below q0));have HF:=Lib.hid (fun (w':World) (q:Below w.heap.size w w')=>fits23_any A c l B a.length d w' (Dt.below _ ho q (Nat.le_refl _)));have HO:=Lib.hid ho;have HAr:=Lib.hid ha;have HC:=Lib.hid (fun hf=>theirs_text w hE A l c ho k B a d 0 ha har hf);have HBk:=Lib.hid (fun s (h:replyT l k a=(s,0))=>reply_back har h);clear ho ha;go_enter Tryz.func4,Tryz.ntmps4;go_wp2_with fail;refine HA.out.mono ?_;rintro e w1 ⟨rfl,q1⟩;have q2:=below_trans q0 q1;obtain ⟨e0,e1,e2⟩:=(hb0.below q1 (Nat.le_refl _)).three;have hb1:=hb0.below q1 (Nat.le_refl _);go_wp2_with fail;refine (HF.out _ q2).mono ?_;rintro e w2 ⟨rfl,q3⟩;have q4:=below_trans q2 q3;have hb2:=hb1.below q3 (Nat.le_refl _);clear e0 e1 e2 hb0 hb1 q0 q1 q2 q3;cases hf:fitsO l a.length with
 |false=>
  clear hf;go_wp2_with fail;refine bodyPost_ret (v:= .bool true) (by simp[results,Tryz.results4,go_sem]) rfl ⟨rfl,?_⟩;exact q4
 |true=>
  obtain ⟨HTh,HTx,HRd⟩:=HC.out hf;replace HTh:=Lib.hid HTh;replace HTx:=Lib.hid HTx;replace HRd:=Lib.hid HRd;obtain ⟨hfew,-,-⟩:=fits_few hf;have HFew:=Lib.hid hfew;have hll:=hfew.1;clear hf hfew HC;generalize hP:replyT l k a=P at*;have HP:=Lib.hid hP;clear hP;go_upto_region 5 with fail;go_cut [5,6] (fun s5 s6 wx=>s5= .string ⟨P.1.toArray⟩∧s6= .int .i64 P.2∧Below w.heap.size w wx∧Blk wx w.heap.size 25 #[.int .i64 k,.slice B a.length d,.int .i64 nodes])
  case first=>
   obtain ⟨e0,e1,e2⟩:=hb2.three;go_region_held3 (fun w'=>Below w.heap.size w w'∧Blk w' w.heap.size 25 #[.int .i64 k,.slice B a.length d,.int .i64 nodes]∧w'.cell? ⟨w.heap.size,0,none⟩=some (.int .i64 k)∧w'.cell? ⟨w.heap.size,1,none⟩=some (.slice B a.length d)) (first|exact verS_keep ⟨q4,hb2,e0,e1⟩ ((Read.refl w2).drew.below _)|exact verS_keep ‹_› q5|exact verS_keep ‹_› q6)
    (first|(go_at_call 9;refine (HTh.out _ (And.left ‹_›)).mono ?_;rintro e w5 ⟨⟨A',c',rfl,hr⟩,q5⟩)|(go_at_call 8;refine (HTx.out _ A' c' (And.left ‹_›) hr).mono ?_;rintro e w6 ⟨rfl,q6⟩))
   all_goals
    have hs:=verS_keep (w:=w) (w':=w6) (k:=k) (nodes:=nodes) (B:=B) (n:=a.length) (d:=d) (by assumption) (Below.refl _ _);clear HTx HTh HRd HF;go_wp2_with fail;go_meet;exact ⟨rfl,rfl,hs.1,hs.2.1⟩
  case rest=>
   obtain ⟨rfl,rfl,q5,hb5⟩:=hcut;clear hb2 q4 HTx HF;obtain ⟨t,er⟩:=P;dsimp only at HP⊢;have herr:=reply_err (outs:=l) (k:=k) (a:=a);rw[HP.out]at herr;obtain ⟨e0,e1,e2⟩:=hb5.three;rcases herr with herr|herr
   ·obtain ⟨rfl,rfl⟩:=Prod.mk.inj herr;clear herr;go_wp2_with fail;refine bodyPost_ret (v:= .bool true) (by simp[results,Tryz.results4,go_sem]) rfl ⟨rfl,?_⟩;exact q5
   ·obtain rfl:er=0:=herr;obtain ⟨vs,hv1,hv2,hv3⟩:=HBk.out t rfl;clear HBk;have hSs:(⟨t.toArray⟩:ByteArray).size=t.length:=by simp[ByteArray.size]
    have hSt:(⟨t.toArray⟩:ByteArray).data.toList=t:=rfl;by_cases hbig:6000<t.length
    ·generalize (⟨t.toArray⟩:ByteArray)=S at*;have d1:decide ((6000:Int)<(S.size:Int))=true:=decide_eq_true (by omega);have d2:decide (6000<S.size)=true:=decide_eq_true (by omega);clear hv1 hv2 hv3 hSs hSt hbig;go_wp2_with fail;refine bodyPost_ret (v:= .bool true) (by simp[results,Tryz.results4,go_sem]) rfl ⟨rfl,?_⟩;exact q5
    ·have HRd2:=Lib.hid (fun (w':World) (A':Option Addr) (c':Nat) (q:Below w.heap.size w w') h=>HRd.out w' A' c' ⟨t.toArray⟩ (by omega) q h);rw[hSt,hv1]at HRd2;generalize (⟨t.toArray⟩:ByteArray)=S at*;have d1:decide ((6000:Int)<(S.size:Int))=false:=decide_eq_false (by omega);have d2:decide (6000<S.size)=false:=decide_eq_false (by omega);have HV2:=Lib.hid hv2;have HV3:=Lib.hid hv3;clear hv1 hv2 hv3 hSs hSt hbig HRd;go_wp2_with fail;refine (HTh.out _ q5).mono ?_;rintro e w6 ⟨⟨A',c',rfl,hr⟩,q6⟩;have q7:=below_trans q5 q6;have hb6:=hb5.below q6 (Nat.le_refl _);clear e0 e1 e2;go_wp2_with fail;refine (HRd2.out _ A' c' q7 hr).mono ?_;rintro e w7 ⟨⟨V,rfl,hV,-⟩,q8⟩;obtain ⟨B7,d7,rfl⟩:=Lay.row_len hV;dsimp only at hV⊢;have q9:=below_trans q7 q8;have hb7:=hb6.below q8 (Nat.le_refl _);have hx8:=Blk.new w7 40 #[.int .i64 k,.slice B7 vs.length d7];have q10:=below_alloc1 w7 (.cells #[.int .i64 k,.slice B7 vs.length d7] 40);have hb8:=hb7.below q10 (Nat.le_refl _);have hV8:=Dt.below _ hV q10 (Nat.le_refl _);have q11:=below_trans q9 q10;obtain ⟨e0,e1,e2⟩:=hb8.three;obtain ⟨x0,x1,_,_⟩:=hx8.both;clear hr hV hb5 hb6 hb7 q5 q6 q7 q8 q9 q10;go_upto_region 13 with fail;generalize w7.alloc (.cells #[.int .i64 k,.slice B7 vs.length d7] 40)=W8 at*;obtain ⟨ks,hks⟩:∃ks,decide (k=2∨k=3)=ks:=⟨_,rfl⟩;go_cut [61] (fun s wx=>s= .bool (!ks)∧wx=W8)
     case first=>
      by_cases h2:k=2
      ·have f2:(k !=2)=false:=by rw[h2];rfl
       have hks2:ks=true:=by rw[←hks];exact decide_eq_true (.inl h2)
       subst hks2;clear h2 hks x0 x1 hV8;go_wp2_with fail;go_meet;exact ⟨rfl,rfl⟩
      ·have f2:(k !=2)=true:=ne_bool h2;by_cases h3:k=3
       ·have f3:(k !=3)=false:=by rw[h3];rfl
        have hks2:ks=true:=by rw[←hks];exact decide_eq_true (.inr h3)
        subst hks2;clear h2 h3 hks x0 x1 hV8;go_wp2_with fail;go_meet;exact ⟨rfl,rfl⟩
       ·have f3:(k !=3)=true:=ne_bool h3;have hks2:ks=false:=by rw[←hks];exact decide_eq_false (by omega)
        subst hks2;clear h2 h3 hks x0 x1 hV8;go_wp2_with fail;go_meet;exact ⟨rfl,rfl⟩
     case rest=>
      obtain ⟨rfl,rfl⟩:=hcut;cases ks with
      |false=>
       have hn:=of_decide_eq_false hks;obtain rfl:=HV3.out hn;clear hks hn hV8;go_wp2_with fail;refine bodyPost_ret (v:= .bool true) (by simp[results,Tryz.results4,go_sem]) rfl ⟨rfl,?_⟩;exact q11
      |true=>
       have hown:=HV2.out (of_decide_eq_true hks);have hvl:=ownO_len hown;have d3:((vs.length:Int) !=(l.length:Int))=false:=by rw[hvl];simp
       have HVL:=Lib.hid hvl;have HOwn:=Lib.hid hown;have HX8:=Lib.hid hx8;have HB8:=Lib.hid hb8;have HVr:=Lib.hid hV8;clear hks hvl hown hx8 hb8 hV8 HV2 HV3 HTh HRd2;go_wp2_with fail;clear d1 d2 d3 e0 e1 e2 x0 x1;go_loopg [74] l.length (fun kk p wr=>∃(j:Nat),kk=l.length-j∧j≤l.length∧p= .int .i64 (j:Nat)∧Below wc.heap.size wc wr)
       case atStart=>exact ⟨0,rfl,Nat.zero_le _,rfl,Below.refl _ _⟩
       case round=>
        obtain ⟨j,hkk,hj,rfl,hbl⟩:=hrel;by_cases hlt:j<l.length
        ·have d1:decide ((j:Int)<(l.length:Int))=true:=decide_eq_true (by omega);have hlt2:j<vs.length:=by rw[HVL.out];exact hlt
         obtain ⟨b,o,hA,hb1,hc⟩:=row_o (Dt.below _ HO.out (below_trans q11 hbl) (Nat.le_refl _)) (row_ne hlt);obtain ⟨c0,c1,c2,A3,n3,c3,hrow⟩:=hc j hlt;subst hA;clear hc;have HAt:=Lib.hid (ownO_at HOwn.out j hlt hlt2);have hlen:=valsO_len HAt.out;obtain ⟨b2,o2,hB2,hb2',hc2⟩:=row_v (Dt.below _ HVr.out hbl (Nat.le_refl _)) (row_ne hlt2);obtain ⟨A4,n4,k0,hv4⟩:=hc2 j hlt2;clear hc2;have HXl:Hid ((l[j]).x.length≤100):=(HFew.out.2 _ (List.getElem_mem hlt)).2;generalize l[j]=x at*;generalize vs[j]=v at*;obtain ⟨xn,xb,xa,xx⟩:=x;dsimp only at c0 c1 c2 c3 hrow HAt hlen HXl;have d4:((v.length:Int) !=(xx.length:Int))=false:=by rw[hlen];simp
         have HLen:=Lib.hid hlen;clear hlen;have q12:=below_alloc1 wr (.cells #[.string ⟨xn.toArray⟩,.bool xb,.bool xa,.slice A3 xx.length n3] 45);have hbo:=Blk.new wr 45 #[.string ⟨xn.toArray⟩,.bool xb,.bool xa,.slice A3 xx.length n3];go_upto_region 20 with fail;have hbl9:=below_trans hbl q12;generalize wr.alloc (.cells #[.string ⟨xn.toArray⟩,.bool xb,.bool xa,.slice A3 xx.length n3] 45)=W9 at*;have hrow9:=Dt.below _ hrow q12 (Nat.le_refl _);have hv9:=Dt.below _ hv4 q12 (Nat.le_refl _);have kk0:=(q12.cell (p:=⟨b2,o2+j,none⟩) hb2').trans k0;obtain ⟨f0,f1,f2,f3⟩:=hbo.four;obtain ⟨x0,x1,_,_⟩:=(HX8.out.below hbl9 (Nat.le_refl _)).both;subst hB2;clear c0 c1 c2 c3 k0 hrow hv4 hbo;go_quiet (fail);go_wp2_with fail;have HQ9:=Lib.hid hbl9;have HK0:=Lib.hid kk0;have HR9:=Lib.hid hrow9;have HV9:=Lib.hid hv9;have HB9:b2<W9.heap.size:=Nat.lt_of_lt_of_le hb2' q12.size;clear d1 d4 f0 f1 f2 f3 x0 x1 kk0 hrow9 hv9 hbl9 hb1 hb2' q12 hbl;go_loopg [92] xx.length (fun kk p w2=>∃(i:Nat),kk=xx.length-i∧i≤xx.length∧p= .int .i64 (i:Nat)∧Below W9.heap.size W9 w2)
         case atStart=>exact ⟨0,rfl,Nat.zero_le _,rfl,drewN_below _ _⟩
         case round=>
          obtain ⟨i,hkk2,hi,rfl,hbl2⟩:=hrel;have hxl:=HXl.out;have hbl9:=below_trans HQ9.out hbl2;by_cases hit:i<xx.length
          ·have d5:decide ((i:Int)<(xx.length:Int))=true:=decide_eq_true (by omega);have hiv:i<v.length:=by rw[HLen.out];exact hit
           obtain ⟨m,hm1,hm2,hm3⟩:=valO_some (valsO_at HAt.out i hit hiv);obtain ⟨b3,o3,hA3,hb3,hc3⟩:=row_n (Dt.below _ HR9.out hbl2 (Nat.le_refl _)) (row_ne hit);have k1:=hc3 i hit;obtain ⟨b4,o4,hA4,hb4,hc4⟩:=row_n (Dt.below _ HV9.out hbl2 (Nat.le_refl _)) (row_ne hiv);have k2:=hc4 i hiv;obtain ⟨b5,o5,hA5,hb5,hc5⟩:=row_n (Dt.below _ HAr.out (below_trans q11 hbl9) (Nat.le_refl _)) (row_ne hm2);have k3:=hc5 m hm2;rw[hm1]at k1;rw[hm3]at k3;obtain ⟨e0,e1,e2⟩:=(HB8.out.below hbl9 (Nat.le_refl _)).three;obtain ⟨x0,x1,_,_⟩:=(HX8.out.below hbl9 (Nat.le_refl _)).both;have kk0:=(hbl2.cell (p:=⟨b2,o2+j,none⟩) HB9).trans HK0.out;subst hA3 hA4 hA5;clear hc3 hc4 hc5 hm1 hm3;generalize v[i]=n at*;go_upto_region 25 with fail;go_quiet (fail);go_wp2_with fail;go_roundg (xx.length-(i+1))
           case measure=>omega
           case rel=>exact ⟨i+1,rfl,by omega,by simp,below_trans hbl2 (drewN_below _ _)⟩
          ·have d5:decide ((i:Int)<(xx.length:Int))=false:=decide_eq_false (by omega);go_wp2_with fail;go_roundg (l.length-(j+1))
           case measure=>omega
           case rel=>exact ⟨j+1,rfl,by omega,by simp,hbl9⟩
        ·have d1:decide ((j:Int)<(l.length:Int))=false:=decide_eq_false (by omega);go_wp2_with fail;refine bodyPost_ret (v:= .bool true) (by simp[results,Tryz.results4,go_sem]) rfl ⟨rfl,?_⟩;exact below_trans q11 hbl
end Go.Proofs.YtjlhjabgclflcaaGreatDoor

/-
  Joined texts: SgC, SgD, SgE, SgF, Ord.
-/
import Derived.Test.YtpnmcacndjkfaaaGreatSgB
import Derived.WalkSpells
import Derived.Deep.RegionHeld3
set_option maxHeartbeats 1000000
set_option maxRecDepth 100000
set_option linter.unusedSimpArgs false
set_option linter.unusedVariables false
namespace Go.Proofs.YtpnmcacndjkfaaaGreat
open Go.RowKit Num
theorem Rd.inj {w:World}{A:Option Addr}{c d:Nat}{xs ys:List Nat}(h:Rd w A c xs)(h':Rd w A d ys)(hl:xs.length=ys.length):xs=ys:=by
 refine List.ext_getElem hl (fun i h1 h2=> ?_);obtain⟨b,o,hA,_,hc⟩:=h.at_ (by rintro rfl;simp at h1);obtain⟨b',o',hA',_,hc'⟩:=h'.at_ (by rintro rfl;simp at h2);rw[hA]at hA';injection hA' with e;injection e with e1 e2 _;subst e1 e2;have e3:=(hc i h1).symm.trans (hc' i h2);injection e3 with e3;injection e3 with _ e3;exact_mod_cast e3
noncomputable def numAt (w:World)(v:Value):Nat:=by
 classical exact if h:∃q A c,v= .slice A (dig q).length c∧Rd w A c (dig q) then h.choose else 0
theorem numAt_eq {w:World}{A:Option Addr}{c q:Nat}(h:Rd w A c (dig q)):numAt w (.slice A (dig q).length c)=q:=by
 have hex:∃q' A' c',Value.slice A (dig q).length c= .slice A' (dig q').length c'∧Rd w A' c' (dig q'):=⟨q,A,c,rfl,h⟩;unfold numAt;rw[dif_pos hex];obtain⟨A',c',e,hr⟩:=hex.choose_spec;injection e with e1 e2 e3;subst e1 e3;exact(dig_inj (h.inj hr e2)).symm
theorem sok_nat (k:Nat):sok (k:Int)=(false,dig k,0):=by
 unfold sok sN sD;simp
theorem gcd_step {p q:Nat}:Nat.gcd p q=Nat.gcd q (p%q):=by rw[Nat.gcd_comm p q,Nat.gcd_rec q p,Nat.gcd_comm]
theorem sgcd_any (n m:Bool)(A B:Option Addr)(c d:Nat)(xs ys:List Nat)(w:World)(ha:Rd w A c xs)(hb:Rd w B d ys):Calls Tryz.prog 87 #[iv n A xs.length c,iv m B ys.length d] w fun e w'=>RetI w w' e (sgcdR n xs m ys):=by
 have ha0:=((ha.alloc (.cells #[.bool n,.slice A xs.length c] 31)).alloc (.cells #[.bool m,.slice B ys.length d] 31)).alloc (.cells #[.bool false,.slice none 0 0] 31);have hy0:=((hb.alloc (.cells #[.bool n,.slice A xs.length c] 31)).alloc (.cells #[.bool m,.slice B ys.length d] 31)).alloc (.cells #[.bool false,.slice none 0 0] 31);have hb0:=below_alloc (below_alloc (below_alloc1 w (.cells #[.bool n,.slice A xs.length c] 31)) ZL (.cells #[.bool m,.slice B ys.length d] 31)) ZL (.cells #[.bool false,.slice none 0 0] 31);have hi0:IB (((w.alloc (.cells #[.bool n,.slice A xs.length c] 31)).alloc (.cells #[.bool m,.slice B ys.length d] 31)).alloc (.cells #[.bool false,.slice none 0 0] 31)) (w.heap.size+1+1):=IB.at_ (by simp);rcases Bool.eq_false_or_eq_true (sright n xs&&sright m ys) with h0|h0
 case inr=>
  have HE:=ZH (sgcdR_no h0);have H1:=ZH h0;clear h0;go_enter Tryz.func87,Tryz.ntmps87;go_wp2_with fail;refine(both_any _ _ A B c d xs ys _ ha0 hy0).mono ?_;rintro e w2 ⟨rfl,hb2⟩;rw[H1.out];obtain⟨hc,hf⟩:=bcell hb2;have ha2:=ha0.below hb2 ZL;have hy2:=hy0.below hb2 ZL;have hi2:=hi0.below hb2 ZL;have hbel:=below_trans hb0 hb2;have hs2:w.heap.size<w2.heap.size∧w.heap.size+1<w2.heap.size∧w.heap.size+1+1<w2.heap.size:=by have:=hb2.size;simp at this;omega
  go_wp2;rw[HE.out];exact bodyPost_ret (v:= .tuple #[iv false none 0 0,.int .i64 2]) (by simp[results,Tryz.results87,go_sem,hc,hf]) rfl ⟨⟨none,0,rfl,Rd.nil.put hi2 _ _⟩,below_put hbel (by omega) _ _⟩
 have H1:=ZH h0;rw[Bool.and_eq_true]at h0;obtain⟨h1,h2⟩:=h0;have HE:=ZH (sgcdR_eq h1 h2);have D1:=ZH (right_dig ha.ok (sright_rightB h1));have D2:=ZH (right_dig hb.ok (sright_rightB h2));have L1:xs.length≤256:=right_len (sright_rightB h1);have L2:ys.length≤256:=right_len (sright_rightB h2);clear h1 h2;have k1:Blk (((w.alloc (.cells #[.bool n,.slice A xs.length c] 31)).alloc (.cells #[.bool m,.slice B ys.length d] 31)).alloc (.cells #[.bool false,.slice none 0 0] 31)) w.heap.size _ _:=((Blk.new w 31 #[.bool n,.slice A xs.length c]).alloc _).alloc _;have k2:Blk (((w.alloc (.cells #[.bool n,.slice A xs.length c] 31)).alloc (.cells #[.bool m,.slice B ys.length d] 31)).alloc (.cells #[.bool false,.slice none 0 0] 31)) (w.heap.size+1) _ _:=(Blk.at_ (by simp)).alloc _;have k4:Blk (((w.alloc (.cells #[.bool n,.slice A xs.length c] 31)).alloc (.cells #[.bool m,.slice B ys.length d] 31)).alloc (.cells #[.bool false,.slice none 0 0] 31)) (w.heap.size+1+1) _ _:=Blk.at_ (by simp);go_enter Tryz.func87,Tryz.ntmps87;go_wp2_with fail;refine(both_any _ _ A B c d xs ys _ ha0 hy0).mono ?_;rintro e w2 ⟨rfl,hb2⟩;rw[H1.out];obtain⟨hc,hf⟩:=bcell hb2;have ha2:=ha0.below hb2 ZL;have hy2:=hy0.below hb2 ZL;have hi2:=hi0.below hb2 ZL;have hbel:=below_trans hb0 hb2;have hs2:w.heap.size<w2.heap.size∧w.heap.size+1<w2.heap.size∧w.heap.size+1+1<w2.heap.size:=by have:=hb2.size;simp at this;omega
 obtain⟨v1,v2,_,_⟩:=(k1.below hb2 ZL).both;obtain⟨v3,v4,_,_⟩:=(k2.below hb2 ZL).both;have i4:=k4.below hb2 ZL;clear hc hf k1 k2 k4 hb2 hb0 ha0 hy0 hi0 hs2 hi2;go_wp2_with fail;go_quiet (fail);go_wp2_with fail;have hgoal:Hid (Nat.gcd (val xs) (val ys)=Nat.gcd (val xs) (val ys)):=rfl;go_loopw [6,7] (fun x y wr=>∃(p q:Nat)(A1:Option Addr)(c1:Nat)(B1:Option Addr)(d1:Nat),x= .slice A1 (dig p).length c1∧y= .slice B1 (dig q).length d1∧Rd wr A1 c1 (dig p)∧Rd wr B1 d1 (dig q)∧(dig p).length≤256∧(dig q).length≤256∧
  Hid (Nat.gcd p q=Nat.gcd (val xs) (val ys))∧Blk wr (w.heap.size+1+1) 31 #[.bool false,.slice none 0 0]∧Below w.heap.size w wr) (fun _ y wr=>numAt wr y)
 case atStart=>
  refine⟨val xs,val ys,A,c,B,d,?_,?_,?_,?_,?_,?_,rfl,i4.drewN _,hbel.trans ((Read.refl w2).drewN _|>.below _)⟩
  ·rw[D1.out]
  ·rw[D2.out]
  ·rw[D1.out];exact ha2.drewN _
  ·rw[D2.out];exact hy2.drewN _
  ·rw[D1.out];exact L1
  ·rw[D2.out];exact L2
 case round=>
  obtain⟨p,q,A1,c1,B1,d1,rfl,rfl,hr1,hr2,hl1,hl2,hg,hk,hbel⟩:=hrel;by_cases hq:q=0
  ·subst hq;have HG:Hid (p=Nat.gcd (val xs) (val ys)):=hg.out.symm.trans (Nat.gcd_zero_right p)|>.symm;have hq0:(dig 0).length≤0:=Nat.le_refl _;go_wp2_with fail;refine(made_ok false A1 c1 (dig p) wr hr1 (by omega)).mono ?_;rintro e w3 ⟨⟨A3,c3,rfl,hr3⟩,hb3⟩;have i3:=hk.below hb3 ZL;have hbel3:=below_trans hbel hb3;go_wp2_with ((with_reducible refine st_ ?_);refine wp_put2 _ _ i3 rfl rfl rfl rfl info_int rfl rfl ?_;intro w5 i5 g5;obtain⟨v5,v6,v7,v8⟩:=i5.both);rw[HE.out,sok_nat,←HG.out];exact bodyPost_ret (v:= .tuple #[iv false A3 (dig p).length c3,.int .i64 0]) (by simp[results,Tryz.results87,go_sem,v5,v6]) rfl ⟨⟨A3,c3,rfl,hr3.turn g5 i3.ib⟩,below_grown hbel3 g5 hbel3.size (by omega)⟩
  ·have hq0:0<(dig q).length:=dig_len_pos.2 (by omega);have HD:=ZH (divR_eq (xs:=dig p) (ys:=dig q) (right_dig' hl1) (right_dig' hl2) (fun e=>hq (dig_eq_nil.1 e)));have HQ:=ZH hq;clear hq;go_wp2_with fail;refine(divmod_any A1 B1 c1 d1 _ _ _ hr1 hr2).mono ?_;rintro e w3 ⟨⟨A3,c3,B3,d3,rfl,hq3,hr3⟩,hb3⟩;rw[HD.out,val_dig,val_dig]at hr3⊢;have hy3:=hr2.below hb3 ZL;have hk3:=hk.below hb3 ZL;have hbel3:=below_trans hbel hb3;go_wp2_with fail;refine⟨⟨q,p%q,B1,d1,B3,d3,rfl,rfl,hy3,hr3,hl2,?_,?_,hk3,hbel3⟩,?_⟩
   ·have hlt:=Nat.mod_lt p (Nat.pos_of_ne_zero HQ.out);exact Nat.le_trans (dig_len_mono (Nat.le_of_lt hlt)) hl2
   ·exact gcd_step.symm.trans hg.out
   ·rw[numAt_eq hr3,numAt_eq hr2];exact Nat.mod_lt p (Nat.pos_of_ne_zero HQ.out)
end Go.Proofs.YtpnmcacndjkfaaaGreat
namespace Go.Proofs.YtpnmcacndjkfaaaGreat
open Go.RowKit Num
theorem stextR_no {n:Bool}{xs:List Nat}(h:sright n xs=false):stextR n xs=([],2):=by unfold stextR;rw[h];rfl
theorem stextR_p {xs:List Nat}(h:sright false xs=true):stextR false xs=(decS (val xs),0):=by
 unfold stextR;rw[if_pos h];unfold sv intS;simp
theorem stextR_n {xs:List Nat}(ho:Ok xs)(h:sright true xs=true):stextR true xs=(45::decS (val xs),0):=by
 have:=val_pos_right ho (sright_rightB h) (sright_ne h);unfold stextR;rw[if_pos h];unfold sv intS;simp;omega
theorem cat45 (l:List UInt8):((⟨#[45]⟩:ByteArray)++(⟨l.toArray⟩:ByteArray))=⟨(45::l).toArray⟩:=by
 apply ByteArray.ext;simp
theorem decS_len256 {xs:List Nat}(ho:Ok xs)(h:rightB xs=true):(decS (val xs)).length≤2561:=by
 unfold decS;split
 ·simp
 ·have:=decR_len_dig (n:=val xs) (k:=256) (by rw[right_dig ho h];exact right_len h);simp;omega
theorem stext_any (n:Bool)(A:Option Addr)(c:Nat)(xs:List Nat)(w:World)(ha:Rd w A c xs):Calls Tryz.prog 51 #[iv n A xs.length c] w fun e w'=>RetTE w w' e (stextR n xs):=by
 have ha0:=ha.alloc (.cells #[.bool n,.slice A xs.length c] 31);have hb0:=below_alloc1 w (.cells #[.bool n,.slice A xs.length c] 31);have k1:=Blk.new w 31 #[.bool n,.slice A xs.length c];rcases Bool.eq_false_or_eq_true (sright n xs) with h1|h1
 ·have HT:Hid (textR xs=(decS (val xs),0)):=by unfold Hid textR;rw[if_pos (sright_rightB h1)]
  have H1:=ZH h1;have hdl:=decS_len256 ha.ok (sright_rightB h1);cases n
  ·have HE:=ZH (stextR_p h1);clear h1;go_enter Tryz.func51,Tryz.ntmps51;go_wp2_with fail;refine(sright_any _ A c xs _ ha0).mono ?_;rintro e w2 ⟨rfl,hb2⟩;rw[H1.out];have k2:=k1.below hb2 ZL;obtain⟨v1,v2,_,_⟩:=k2.both;have ha2:=ha0.below hb2 ZL;have hbel:=below_trans hb0 hb2;clear hb2 k1 ha0 hb0;go_wp2_with fail;refine(text_any A c xs w2 ha2).mono ?_;rintro e w3 ⟨rfl,hb3⟩;rw[HT.out];obtain⟨v3,v4,_,_⟩:=(k2.below hb3 ZL).both;have hbel3:=below_trans hbel hb3;go_wp2;go_ret2;rw[HE.out];exact⟨rfl,hbel3⟩
  ·have HE:=ZH (stextR_n ha.ok h1);clear h1;go_enter Tryz.func51,Tryz.ntmps51;go_wp2_with fail;refine(sright_any _ A c xs _ ha0).mono ?_;rintro e w2 ⟨rfl,hb2⟩;rw[H1.out];have k2:=k1.below hb2 ZL;obtain⟨v1,v2,_,_⟩:=k2.both;have ha2:=ha0.below hb2 ZL;have hbel:=below_trans hb0 hb2;clear hb2 k1 ha0 hb0;go_wp2_with fail;refine(text_any A c xs w2 ha2).mono ?_;rintro e w3 ⟨rfl,hb3⟩;rw[HT.out];obtain⟨v3,v4,_,_⟩:=(k2.below hb3 ZL).both;have hbel3:=below_trans hbel hb3;go_wp2;go_ret2;rw[HE.out];refine⟨?_,hbel3⟩;show Ending.returned (.tuple #[.string (⟨#[45]⟩++⟨(decS (val xs)).toArray⟩),.int .i64 0])=_;rw[cat45]
 ·have HE:=ZH (stextR_no h1);have H1:=ZH h1;clear h1;go_enter Tryz.func51,Tryz.ntmps51;go_wp2_with fail;refine(sright_any _ A c xs _ ha0).mono ?_;rintro e w2 ⟨rfl,hb2⟩;rw[H1.out];have k2:=k1.below hb2 ZL;obtain⟨v1,v2,_,_⟩:=k2.both;have ha2:=ha0.below hb2 ZL;have hbel:=below_trans hb0 hb2;clear hb2 k1 ha0 hb0;go_wp2;go_ret2;rw[HE.out];exact⟨rfl,hbel⟩
end Go.Proofs.YtpnmcacndjkfaaaGreat
namespace Go.Proofs.YtpnmcacndjkfaaaGreat
open Go.RowKit Num
end Go.Proofs.YtpnmcacndjkfaaaGreat
set_option linter.unusedSimpArgs false
set_option linter.unusedVariables false
namespace Go.Proofs.YtpnmcacndjkfaaaGreat
open Go.RowKit Num
end Go.Proofs.YtpnmcacndjkfaaaGreat
namespace Go.Proofs.YtpnmcacndjkfaaaGreat
open Go.RowKit Num
end Go.Proofs.YtpnmcacndjkfaaaGreat
namespace Go.Proofs.YtpnmcacndjkfaaaGreat
open Go.RowKit Num
end Go.Proofs.YtpnmcacndjkfaaaGreat
namespace Go.Proofs.YtpnmcacndjkfaaaGreat
open Go.RowKit Num
end Go.Proofs.YtpnmcacndjkfaaaGreat
namespace Go.Proofs.YtpnmcacndjkfaaaGreat
open Go.RowKit Num
end Go.Proofs.YtpnmcacndjkfaaaGreat
set_option linter.unusedSimpArgs false
set_option linter.unusedVariables false
namespace Go.Proofs.YtpnmcacndjkfaaaGreat
open Go.RowKit Num
end Go.Proofs.YtpnmcacndjkfaaaGreat
namespace Go.Proofs.YtpnmcacndjkfaaaGreat
open Go.RowKit Num
end Go.Proofs.YtpnmcacndjkfaaaGreat
set_option linter.unusedSimpArgs false
set_option linter.unusedVariables false
namespace Go.Proofs.YtpnmcacndjkfaaaGreat
open Go.RowKit Num
structure El where
 n:Bool
 A:Option Addr
 xs:List Nat
 c:Nat
def Els (w:World)(g:Nat)(L:List El):Prop:=g<w.heap.size∧∀i (h:i<L.length),w.cell? ⟨g,i*2,none⟩=some (.bool L[i].n)∧w.cell? ⟨g,i*2+1,none⟩=some (.slice L[i].A L[i].xs.length L[i].c)∧Rd w L[i].A L[i].c L[i].xs
theorem Els.below {w w':World}{g:Nat}{L:List El}(h:Els w g L)(hb:Below w.heap.size w w'):Els w' g L:=
 ⟨Nat.lt_of_lt_of_le h.1 hb.size,fun i hi=>⟨(hb.cell (p:=⟨g,i*2,none⟩) h.1).trans (h.2 i hi).1,(hb.cell (p:=⟨g,i*2+1,none⟩) h.1).trans (h.2 i hi).2.1,(h.2 i hi).2.2.below hb ZL⟩⟩
end Go.Proofs.YtpnmcacndjkfaaaGreat
namespace Go.Proofs.YtpnmcacndjkfaaaGreat
open Go.RowKit Num
theorem sD_small {z:Int}{k:Nat}(h:z.natAbs<4294967296^k):(sD z).length≤k:=dig_length_le h
theorem sdiv_sd {a b:Int}(ha:(sD a).length≤256)(hb:(sD b).length≤256)(h:b≠0)(hq:(sD (Int.fdiv a b)).length≤256):sdivR (sN a) (sD a) (sN b) (sD b)=dok (Int.fdiv a b) (Int.fmod a b):=by
 rw[sdivR_eq (sright_sd ha) (sright_sd hb) (fun e=>h (sD_nil.1 e)),sv_sd,sv_sd,if_pos hq]
end Go.Proofs.YtpnmcacndjkfaaaGreat
namespace Go.Proofs.YtpnmcacndjkfaaaGreat
open Go.RowKit Num
structure Mem (w0 w:World) (Ks:List (Nat×TypeId×Array Value)) (Rs:List (Option Addr×Nat×List Nat)):Prop where
 bel:Below w0.heap.size w0 w
 ks:∀k∈Ks,Blk w k.1 k.2.1 k.2.2
 rs:∀r∈Rs,Rd w r.1 r.2.1 r.2.2
variable {w0 w w' : World} {Ks : List (Nat × TypeId × Array Value)} {Rs : List (Option Addr × Nat × List Nat)}
theorem Mem.start (w:World):Mem w w [] []:=⟨Below.refl _ _,fun _ h=>by simp at h,fun _ h=>by simp at h⟩
theorem Mem.below (h:Mem w0 w Ks Rs)(q:Below w.heap.size w w'):Mem w0 w' Ks Rs:=
 ⟨below_trans h.bel q,fun k hk=>(h.ks k hk).below q ZL,fun r hr=>(h.rs r hr).below q ZL⟩
theorem Mem.drew (h:Mem w0 w Ks Rs):Mem w0 w.drew Ks Rs:=⟨h.bel.trans ((Read.refl w).drew.below _),fun k hk=>(h.ks k hk).drew,fun r hr=>(h.rs r hr).drew⟩
theorem Mem.drewN (h:Mem w0 w Ks Rs)(n:Nat):Mem w0 (w.drewN n) Ks Rs:=⟨h.bel.trans ((Read.refl w).drewN n|>.below _),fun k hk=>(h.ks k hk).drewN n,fun r hr=>(h.rs r hr).drewN n⟩
theorem Mem.alloc (h:Mem w0 w Ks Rs)(o:Obj):Mem w0 (w.alloc o) Ks Rs:=h.below (below_alloc1 w o)
theorem Mem.k (h:Mem w0 w Ks Rs){i:Nat}{g:Nat}{t:TypeId}{cs:Array Value}(hi:Ks[i]? =some (g,t,cs)):Blk w g t cs:=h.ks _ (List.mem_of_getElem? hi)
theorem Mem.r (h:Mem w0 w Ks Rs){i:Nat}{A:Option Addr}{c:Nat}{xs:List Nat}(hi:Rs[i]? =some (A,c,xs)):Rd w A c xs:=h.rs _ (List.mem_of_getElem? hi)
theorem Mem.addK (h:Mem w0 w Ks Rs){g:Nat}{t:TypeId}{cs:Array Value}(hb:Blk w g t cs):Mem w0 w ((g,t,cs)::Ks) Rs:=
 ⟨h.bel,fun k hk=>by
  rcases List.mem_cons.1 hk with rfl|hk
  ·exact hb
  ·exact h.ks k hk,h.rs⟩
theorem Mem.addR (h:Mem w0 w Ks Rs){A:Option Addr}{c:Nat}{xs:List Nat}(hr:Rd w A c xs):Mem w0 w Ks ((A,c,xs)::Rs):=
 ⟨h.bel,h.ks,fun r hk=>by
  rcases List.mem_cons.1 hk with rfl|hk
  ·exact hr
  ·exact h.rs r hk⟩
theorem Mem.new (h:Mem w0 w Ks Rs)(t:TypeId)(cs:Array Value):Mem w0 (w.alloc (.cells cs t)) ((w.heap.size,t,cs)::Ks) Rs:=(h.alloc _).addK (Blk.new w t cs)
theorem Mem.newAt (h:Mem w0 w Ks Rs){g:Nat}(hg:g=w.heap.size)(t:TypeId)(cs:Array Value):Mem w0 (w.alloc (.cells cs t)) ((g,t,cs)::Ks) Rs:=by subst hg;exact h.new t cs
theorem Mem.tailK {x:Nat×TypeId×Array Value}(h:Mem w0 w (x::Ks) Rs):Mem w0 w Ks Rs:=⟨h.bel,fun k hk=>h.ks k (List.mem_cons_of_mem _ hk),h.rs⟩
theorem Mem.put {g:Nat}{t:TypeId}{n:Bool}{A:Option Addr}{l c:Nat}(h:Mem w0 w ((g,t,#[.bool n,.slice A l c])::Ks) Rs)(hg:w0.heap.size≤g)(hne:∀k∈Ks,k.1≠g)(m:Bool)(B:Option Addr)(k d:Nat):Mem w0 ((w.setCell ⟨g,0,none⟩ (.bool m)).setCell ⟨g,1,none⟩ (.slice B k d)) ((g,t,#[.bool m,.slice B k d])::Ks) Rs:=
 ⟨below_put h.bel hg _ _,fun x hx=>by
  rcases List.mem_cons.1 hx with rfl|hx
  ·exact(h.k (i:=0) rfl).put _ _
  ·exact(h.ks x (List.mem_cons_of_mem _ hx)).away (hne x hx) _ _,fun r hr=>(h.rs r hr).put (h.k (i:=0) rfl).ib m _⟩
theorem Mem.lt (h:Mem w0 w Ks Rs):∀k∈Ks,k.1<w.heap.size:=fun k hk=>(h.ks k hk).lt
end Go.Proofs.YtpnmcacndjkfaaaGreat
set_option linter.unusedSimpArgs false
namespace Go.Proofs.YtpnmcacndjkfaaaGreat
open Go.RowKit
section
variable {P : Program} {ops : Array Oper} {Q : Exit → Act → World → Prop} {md : Region.Mode}
theorem ready_false {listed:Array Bool}{i:Nat}(h:i∈Region.ready md ops listed):listed[i]? =some false:=by
 unfold Region.ready at h;rw[List.mem_filter]at h;have h2:=h.2;rw[Bool.and_eq_true]at h2;have h3:=h2.1;simp only[Array.getD_eq_getD_getElem?]at h3;cases hx:listed[i]? with
 |none=>rw[hx]at h3;simp at h3
 |some b=>rw[hx]at h3;cases b<;>simp at h3⊢
theorem count_set {l:List Bool}{i:Nat}(h:l[i]? =some false):(l.set i true).count false+1=l.count false:=by
 induction l generalizing i with
 |nil=>simp at h
 |cons b l ih=>
  cases i with
  |zero=>
   simp at h;subst h;simp
  |succ i=>
   simp at h;have:=ih h;cases b<;>simp[List.count_cons]at this⊢ <;>omega
theorem wpAnyH_inv {I:Array Bool→Act→World→Prop}(hstep:∀listed a w i,i∈Region.ready md ops listed→I listed a w→wpOp P ops Q i (fun a' w'=>I (listed.setIfInBounds i true) a' w') a w)(hend:∀listed a w,Region.ready md ops listed=[]→I listed a w→Q .normal a w):∀(fuel:Nat)(listed:Array Bool)(a:Act)(w:World),listed.toList.count false≤fuel→I listed a w→wpAnyH P md ops Q (fun _=>True) fuel listed a w:=by
 intro fuel;induction fuel with
 |zero=>
  intro listed a w hc hI;have hr:Region.ready md ops listed=[]:=by
   rw[List.eq_nil_iff_forall_not_mem];intro i hi;have h1:=ready_false hi;have h2:false∈listed.toList:=List.mem_of_getElem? (by simpa using h1);have:=List.count_pos_iff.2 h2;omega
  exact⟨hr,hend listed a w hr hI⟩
 |succ fuel ih=>
  intro listed a w hc hI;refine⟨fun hr=>hend listed a w hr hI,fun i hi=> ?_⟩;refine wpOp_mono (fun a' w' h'=>⟨trivial,ih _ a' w' ?_ h'⟩) (hstep listed a w i hi hI);have h1:listed.toList[i]? =some false:=by simpa using ready_false hi
  have h2:=count_set h1;rw[Array.toList_setIfInBounds];omega
theorem region_inv {id:Nat}{a:Act}{w:World}(hm:P.follows .mixedOrders=true)(I:Array Bool→Act→World→Prop)(h0:I (Array.replicate ops.size false) a w.drew)(hstep:∀listed a w i,i∈Region.ready .any ops listed→I listed a w→wpOp P ops Q i (fun a' w'=>I (listed.setIfInBounds i true) a' w') a w)(hend:∀listed a w,Region.ready .any ops listed=[]→I listed a w→Q .normal a w):(Code.region id ops true).wp P Q a w:=
 wp_region_held hm (wpAnyH_inv hstep hend _ _ a _ (by simp) h0)
end
end Go.Proofs.YtpnmcacndjkfaaaGreat

/-
  Joined texts: Yb, Yc.
-/
import Derived.Test.YtpfhgkielakmoaaGreatDoorPd
import Derived.Test.YtpfhgkielakmoaaGreatDoorDat
import Derived.Test.YtpfhgkielakmoaaGreatDoorReg
/-
  Joined texts: Ya, Yb.
-/
set_option maxHeartbeats 4000000
set_option maxRecDepth 100000
set_option linter.unusedSimpArgs false
set_option linter.unusedVariables false
namespace Go.Proofs.YtpfhgkielakmoaaGreatDoor
open Go.RowKit Num
def DS (A:Option Addr) (c:Nat) (L:List Tok) (n:Int) (v:Value) (o:Option (List Tok)):Prop:=
 ∃(i:Nat) (at_ er:Int),v= .agg #[.slice A L.length c,.int .i64 (i:Nat),.int .i64 n,.int .i64 at_,.int .i64 er]∧i≤L.length∧(match o with
  |some r=>er=0∧r=L.drop i
  |none=>er≠0)
theorem lt_ne0 {α:Type} {l:List α} {j:Nat} (h:j<l.length):l≠[]:=fun e=>by rw[e]at h;cases h
theorem info_st:(Tryz.prog.info? 133).map (·.size)=some 5:=by kernel_rfl
theorem Blk.five {w:World} {g:Nat} {t:TypeId} {a b c d e:Value} (h:Blk w g t #[a,b,c,d,e]):w.cell? ⟨g,0,none⟩=some a∧w.cell? ⟨g,1,none⟩=some b∧w.cell? ⟨g,2,none⟩=some c∧w.cell? ⟨g,3,none⟩=some d∧w.cell? ⟨g,4,none⟩=some e:=
 ⟨h.cell 0,h.cell 1,h.cell 2,h.cell 3,h.cell 4⟩
theorem d_fail {A:Option Addr} {c:Nat} {L:List Tok} {n:Int} {v:Value} {o:Option (List Tok)} {w:World} (hR:RdT w A c L) (h:DS A c L n v o) (e0:Int) (he:e0≠0):Calls Tryz.prog 93 #[v,.int .i64 e0] w fun e w'=>(∃v',e= .returned v'∧DS A c L n v' none)∧Below w.heap.size w w':=by
 obtain ⟨i,at_,er,rfl,hi,ho⟩:=h;by_cases h0:er=0
 ·subst h0;by_cases hl:i<L.length
  ·have d1:decide ((i:Int)<(L.length:Int))=true:=decide_eq_true (by omega);obtain ⟨b,oo,hA,hb,hc⟩:=hR.at_ (lt_ne0 hl);obtain ⟨c1,c2,c3,c4⟩:=hc i hl;subst hA;clear hc hR;generalize L[i].at_=p at*;go_enter Tryz.func93,Tryz.ntmps93;go_wp2_with fail;refine bodyPost_ret (v:= .agg #[.slice (some ⟨b,oo,none⟩) L.length c,.int .i64 (i:Nat),.int .i64 n,.int .i64 p,.int .i64 e0]) (by simp[results,Tryz.results93,go_sem]) rfl ⟨⟨_,rfl,i,p,e0,rfl,hi,he⟩,?_⟩;exact below_trans (below_alloc1 _ _) (below_alloc1 _ _)
  ·have d1:decide ((i:Int)<(L.length:Int))=false:=decide_eq_false (by omega);clear hR;go_enter Tryz.func93,Tryz.ntmps93;go_wp2_with fail;refine bodyPost_ret (v:= .agg #[.slice A L.length c,.int .i64 (i:Nat),.int .i64 n,.int .i64 n,.int .i64 e0]) (by simp[results,Tryz.results93,go_sem]) rfl ⟨⟨_,rfl,i,n,e0,rfl,hi,he⟩,?_⟩;exact below_trans (below_alloc1 _ _) (below_alloc1 _ _)
 ·have h1:(er !=0)=true:=(by simp[h0]);clear hR ho;go_enter Tryz.func93,Tryz.ntmps93;go_wp2_with fail;refine bodyPost_ret (v:= .agg #[.slice A L.length c,.int .i64 (i:Nat),.int .i64 n,.int .i64 at_,.int .i64 er]) (by simp[results,Tryz.results93,go_sem]) rfl ⟨⟨_,rfl,i,at_,er,rfl,hi,h0⟩,?_⟩;exact below_trans (below_alloc1 _ _) (below_alloc1 _ _)
theorem d_wrong {A:Option Addr} {c:Nat} {L:List Tok} {n:Int} {v:Value} {o:Option (List Tok)} {w:World} (hR:RdT w A c L) (h:DS A c L n v o):Calls Tryz.prog 132 #[v] w fun e w'=>(∃v',e= .returned v'∧DS A c L n v' none)∧Below w.heap.size w w':=by
 obtain ⟨i,at_,er,rfl,hi,ho⟩:=h;have M0:Mem w ((w.alloc (.cells #[.slice A L.length c,.int .i64 (i:Nat),.int .i64 n,.int .i64 at_,.int .i64 er] 133)).alloc (.cells #[.slice none 0 0,.int .i64 0,.int .i64 0,.int .i64 0,.int .i64 0] 133)) [(w.heap.size+1,133,zS5),(w.heap.size,133,#[.slice A L.length c,.int .i64 (i:Nat),.int .i64 n,.int .i64 at_,.int .i64 er])] []:=((Mem.start w).new 133 _).newAt (by simp) 133 _;have hR2:=hR.below M0.bel (Nat.le_refl _);have HF:=Lib.hid (fun (e0:Int) (he:e0≠0)=>d_fail hR2 (⟨i,at_,er,rfl,hi,ho⟩:DS A c L n (.agg #[.slice A L.length c,.int .i64 (i:Nat),.int .i64 n,.int .i64 at_,.int .i64 er]) o) e0 he);clear hR hR2 ho;by_cases hl:i<L.length
 ·have d1:decide ((L.length:Int)≤(i:Int))=false:=decide_eq_false (by omega);go_enter Tryz.func132,Tryz.ntmps132;go_wp2_with fail;refine (HF.out 5 (by decide)).mono ?_;rintro e w1 ⟨⟨v',rfl,hv⟩,q1⟩;obtain ⟨i',at',er',rfl,hi',ho'⟩:=hv;have M:=M0.below q1;clear M0 HF;go_wp2_with ((with_reducible refine st_ ?_);refine wp_put2 _ _ (M.k (i:=0) rfl) rfl rfl rfl rfl info_st rfl rfl ?_;intro w4 b4 g4;replace M:=M.rowAt (i:=0) rfl (by omega) (by simp<;>omega) rfl b4 g4;obtain ⟨f1,f2,f3,f4,f5⟩:=(M.k (i:=0) rfl).five);exact bodyPost_ret (v:= .agg #[.slice A L.length c,.int .i64 (i':Nat),.int .i64 n,.int .i64 at',.int .i64 er']) (by simp[results,Tryz.results132,go_sem,f1,f2,f3,f4,f5]) rfl ⟨⟨_,rfl,i',at',er',rfl,hi',ho'⟩,M.bel⟩
 ·have d1:decide ((L.length:Int)≤(i:Int))=true:=decide_eq_true (by omega);go_enter Tryz.func132,Tryz.ntmps132;go_wp2_with fail;refine (HF.out 6 (by decide)).mono ?_;rintro e w1 ⟨⟨v',rfl,hv⟩,q1⟩;obtain ⟨i',at',er',rfl,hi',ho'⟩:=hv;have M:=M0.below q1;clear M0 HF;go_wp2_with ((with_reducible refine st_ ?_);refine wp_put2 _ _ (M.k (i:=0) rfl) rfl rfl rfl rfl info_st rfl rfl ?_;intro w4 b4 g4;replace M:=M.rowAt (i:=0) rfl (by omega) (by simp<;>omega) rfl b4 g4;obtain ⟨f1,f2,f3,f4,f5⟩:=(M.k (i:=0) rfl).five);exact bodyPost_ret (v:= .agg #[.slice A L.length c,.int .i64 (i':Nat),.int .i64 n,.int .i64 at',.int .i64 er']) (by simp[results,Tryz.results132,go_sem,f1,f2,f3,f4,f5]) rfl ⟨⟨_,rfl,i',at',er',rfl,hi',ho'⟩,M.bel⟩
def hereO (o:Option (List Tok)):List UInt8:=match o with
 |some (t::_)=>t.t
 |_=>[]
def isO (s:List UInt8) (o:Option (List Tok)):Bool:=hereO o==s
theorem drop_head {L:List Tok} {i:Nat} (h:i<L.length):L.drop i=L[i]::L.drop (i+1):=List.drop_eq_getElem_cons h
theorem d_here {A:Option Addr} {c:Nat} {L:List Tok} {n:Int} {v:Value} {o:Option (List Tok)} {w:World} (hR:RdT w A c L) (h:DS A c L n v o):Calls Tryz.prog 124 #[v] w fun e w'=>e= .returned (.string ⟨(hereO o).toArray⟩)∧Below w.heap.size w w':=by
 obtain ⟨i,at_,er,rfl,hi,ho⟩:=h;have q0:=below_alloc1 w (.cells #[.slice A L.length c,.int .i64 (i:Nat),.int .i64 n,.int .i64 at_,.int .i64 er] 133);cases o with
 |none=>
  have h1:(er !=0)=true:=(by simpa using ho);clear hR;go_enter Tryz.func124,Tryz.ntmps124;go_wp2_with fail;refine bodyPost_ret (v:= .string ⟨#[]⟩) (by simp[results,Tryz.results124,go_sem]) rfl ⟨rfl,q0⟩
 |some r=>
  obtain ⟨rfl,rfl⟩:=ho;by_cases hl:i<L.length
  ·have d1:decide ((L.length:Int)≤(i:Int))=false:=decide_eq_false (by omega);have d2:(i:Int)<(L.length:Int):=by omega
   obtain ⟨b,oo,hA,hb,hc⟩:=hR.at_ (lt_ne0 hl);obtain ⟨c1,c2,c3,c4⟩:=hc i hl;subst hA;have HE:=Lib.hid (show hereO (some (L.drop i))=L[i].t by rw[drop_head hl];rfl);clear hc hR;generalize L[i].t=p at*;go_enter Tryz.func124,Tryz.ntmps124;go_wp2_with fail;refine bodyPost_ret (v:= .string ⟨p.toArray⟩) (by simp[results,Tryz.results124,go_sem]) rfl ⟨by rw[HE.out],q0⟩
  ·have d1:decide ((L.length:Int)≤(i:Int))=true:=decide_eq_true (by omega);have HE:=Lib.hid (show hereO (some (L.drop i))=[] by rw[List.drop_eq_nil_of_le (by omega)];rfl);clear hR;go_enter Tryz.func124,Tryz.ntmps124;go_wp2_with fail;refine bodyPost_ret (v:= .string ⟨#[]⟩) (by simp[results,Tryz.results124,go_sem]) rfl ⟨by rw[HE.out],q0⟩
theorem toList_bytes (s:List UInt8):ByteArray.toList ⟨s.toArray⟩=s:=by rw[ByteArray.toList_eq]
theorem d_is {A:Option Addr} {c:Nat} {L:List Tok} {n:Int} {v:Value} {o:Option (List Tok)} {w:World} (hR:RdT w A c L) (h:DS A c L n v o) (s:List UInt8):Calls Tryz.prog 133 #[v,.string ⟨s.toArray⟩] w fun e w'=>e= .returned (.bool (isO s o))∧Below w.heap.size w w':=by
 obtain ⟨i,at_,er,rfl,hi,ho⟩:=h;have q0:=below_alloc1 w (.cells #[.slice A L.length c,.int .i64 (i:Nat),.int .i64 n,.int .i64 at_,.int .i64 er] 133);have HF:=Lib.hid (d_here (hR.below q0 (Nat.le_refl _)) (⟨i,at_,er,rfl,hi,ho⟩:DS A c L n (.agg #[.slice A L.length c,.int .i64 (i:Nat),.int .i64 n,.int .i64 at_,.int .i64 er]) o));clear hR ho;unfold isO;generalize hereO o=t at*;go_enter Tryz.func133,Tryz.ntmps133;go_wp2_with fail;refine HF.out.mono ?_;rintro e w1 ⟨rfl,q1⟩;go_wp2_with fail;refine bodyPost_ret (v:= .bool (t==s)) (by simp[results,Tryz.results133,go_sem,toList_bytes]) rfl ⟨rfl,below_trans q0 q1⟩
end Go.Proofs.YtpfhgkielakmoaaGreatDoor
set_option maxHeartbeats 4000000
set_option maxRecDepth 100000
set_option linter.unusedSimpArgs false
set_option linter.unusedVariables false
namespace Go.Proofs.YtpfhgkielakmoaaGreatDoor
open Go.RowKit Num
def takeO (s:List UInt8) (o:Option (List Tok)):Option (List Tok):=if isO s o then o.map List.tail else none
theorem isO_some {s:List UInt8} (hs:s≠[]) {o:Option (List Tok)} (h:isO s o=true):∃t r,o=some (t::r)∧t.t=s:=by
 match o,h with
 |none,h=>exact absurd (eq_of_beq h).symm hs
 |some [],h=>exact absurd (eq_of_beq h).symm hs
 |some (t::r),h=>exact ⟨t,r,rfl,eq_of_beq h⟩
theorem ds_some {A:Option Addr} {c:Nat} {L:List Tok} {n:Int} {v:Value} {t:Tok} {r:List Tok} (h:DS A c L n v (some (t::r))):∃(i:Nat) (at_:Int),v= .agg #[.slice A L.length c,.int .i64 (i:Nat),.int .i64 n,.int .i64 at_,.int .i64 0]∧∃(hl:i<L.length),L[i]=t∧r=L.drop (i+1):=by
 obtain ⟨i,at_,er,rfl,hi,rfl,hr⟩:=h;have hl:i<L.length:=by
  rcases Nat.lt_or_ge i L.length with h|h
  ·exact h
  ·rw[List.drop_eq_nil_of_le h]at hr;cases hr
 rw[drop_head hl]at hr;injection hr with h1 h2;exact ⟨i,at_,rfl,hl,h1.symm,h2⟩
theorem ds_next {A:Option Addr} {c:Nat} {L:List Tok} {n:Int} {i:Nat} {at_:Int} (hl:i<L.length):DS A c L n (.agg #[.slice A L.length c,.int .i64 ((i:Int)+1),.int .i64 n,.int .i64 at_,.int .i64 0]) (some (L.drop (i+1))):=⟨i+1,at_,0,rfl,hl,rfl,rfl⟩
theorem d_next (A:Option Addr) (c m:Nat) (n at_ er:Int) (i:Nat) (hi:i≤100000) (w:World):Calls Tryz.prog 127 #[.agg #[.slice A m c,.int .i64 (i:Nat),.int .i64 n,.int .i64 at_,.int .i64 er]] w fun e w'=>e= .returned (.agg #[.slice A m c,.int .i64 ((i:Int)+1),.int .i64 n,.int .i64 at_,.int .i64 er])∧Below w.heap.size w w':=by
 go_enter Tryz.func127,Tryz.ntmps127;go_wp2_with fail;refine bodyPost_ret (v:= .agg #[.slice A m c,.int .i64 ((i:Int)+1),.int .i64 n,.int .i64 at_,.int .i64 er]) (by simp[results,Tryz.results127,go_sem]) rfl ⟨rfl,?_⟩;exact below_trans (below_alloc1 _ _) (below_alloc1 _ _)
theorem d_take {A:Option Addr} {c:Nat} {L:List Tok} {n:Int} {v:Value} {o:Option (List Tok)} {w:World} (hR:RdT w A c L) (h:DS A c L n v o) (hL:L.length≤10000) (s:List UInt8) (hs:s≠[]):Calls Tryz.prog 95 #[v,.string ⟨s.toArray⟩] w fun e w'=>(∃v',e= .returned v'∧DS A c L n v' (takeO s o))∧Below w.heap.size w w':=by
 have h':=h;obtain ⟨i,at_,er,rfl,hi,ho⟩:=h;have M0:Mem w ((w.alloc (.cells #[.slice A L.length c,.int .i64 (i:Nat),.int .i64 n,.int .i64 at_,.int .i64 er] 133)).alloc (.cells #[.slice none 0 0,.int .i64 0,.int .i64 0,.int .i64 0,.int .i64 0] 133)) [(w.heap.size+1,133,zS5),(w.heap.size,133,#[.slice A L.length c,.int .i64 (i:Nat),.int .i64 n,.int .i64 at_,.int .i64 er])] []:=((Mem.start w).new 133 _).newAt (by simp) 133 _;have hR0:=hR.below M0.bel (Nat.le_refl _);cases o with
 |none=>
  have h1:(er !=0)=true:=(by simpa using ho);clear hR hR0 h' M0;have e0:takeO s none=none:=by unfold takeO;split<;>rfl
  rw[e0];clear e0;go_enter Tryz.func95,Tryz.ntmps95;go_wp2_with fail;refine bodyPost_ret (v:= .agg #[.slice A L.length c,.int .i64 (i:Nat),.int .i64 n,.int .i64 at_,.int .i64 er]) (by simp[results,Tryz.results95,go_sem]) rfl ⟨⟨_,rfl,i,at_,er,rfl,hi,ho⟩,?_⟩;exact below_trans (below_alloc1 _ _) (below_alloc1 _ _)
 |some r=>
  obtain ⟨rfl,rfl⟩:=ho;have HI:=Lib.hid (d_is hR0 h' s);cases hb:isO s (some (L.drop i)) with
  |true=>
   obtain ⟨t,r,hr,_⟩:=isO_some hs hb;have hl:i<L.length:=by
    rcases Nat.lt_or_ge i L.length with h|h
    ·exact h
    ·rw[List.drop_eq_nil_of_le h]at hr;cases hr
   have e1:takeO s (some (L.drop i))=some (L.drop (i+1)):=by
    unfold takeO;rw[if_pos hb];show some (L.drop i).tail=_;rw[drop_head hl];rfl
   have HD:Hid (DS A c L n (.agg #[.slice A L.length c,.int .i64 ((i:Int)+1),.int .i64 n,.int .i64 at_,.int .i64 0]) (takeO s (some (L.drop i)))):=by
    rw[e1];exact ds_next hl
   rw[hb]at HI;clear hR hR0 h' hr e1 hb;go_enter Tryz.func95,Tryz.ntmps95;go_wp2_with fail;refine HI.out.mono ?_;rintro e w1 ⟨rfl,q1⟩;have M1:=M0.below q1;obtain ⟨m1,m2,m3,m4,m5⟩:=(M1.k (i:=1) rfl).five;go_wp2_with fail;refine (d_next A c L.length n at_ 0 i (by omega) w1).mono ?_;rintro e w2 ⟨rfl,q2⟩;have M:=M1.below q2;clear M0 M1 HI m1 m2 m3 m4 m5;go_wp2_with ((with_reducible refine st_ ?_);refine wp_put2 _ _ (M.k (i:=0) rfl) rfl rfl rfl rfl info_st rfl rfl ?_;intro w4 b4 g4;replace M:=M.rowAt (i:=0) rfl (by omega) (by simp<;>omega) rfl b4 g4;obtain ⟨f1,f2,f3,f4,f5⟩:=(M.k (i:=0) rfl).five);exact bodyPost_ret (v:= .agg #[.slice A L.length c,.int .i64 ((i:Int)+1),.int .i64 n,.int .i64 at_,.int .i64 0]) (by simp[results,Tryz.results95,go_sem,f1,f2,f3,f4,f5]) rfl ⟨⟨_,rfl,HD.out⟩,M.bel⟩
  |false=>
   have e1:takeO s (some (L.drop i))=none:=by
    unfold takeO;rw[if_neg (by rw[hb];decide)]
   have HW:=Lib.hid (fun (w':World) (q:Below w.heap.size w w')=>d_wrong (hR.below q (Nat.le_refl _)) h');rw[hb]at HI;rw[e1];clear hR hR0 h' e1 hb;go_enter Tryz.func95,Tryz.ntmps95;go_wp2_with fail;refine HI.out.mono ?_;rintro e w1 ⟨rfl,q1⟩;have M1:=M0.below q1;obtain ⟨m1,m2,m3,m4,m5⟩:=(M1.k (i:=1) rfl).five;go_wp2_with fail;refine (HW.out w1 M1.bel).mono ?_;rintro e w2 ⟨⟨v',rfl,hv⟩,q2⟩;obtain ⟨i',at',er',rfl,hi',ho'⟩:=hv;have M:=M1.below q2;clear M0 M1 HI m1 m2 m3 m4 m5 HW;go_wp2_with ((with_reducible refine st_ ?_);refine wp_put2 _ _ (M.k (i:=0) rfl) rfl rfl rfl rfl info_st rfl rfl ?_;intro w4 b4 g4;replace M:=M.rowAt (i:=0) rfl (by omega) (by simp<;>omega) rfl b4 g4;obtain ⟨f1,f2,f3,f4,f5⟩:=(M.k (i:=0) rfl).five);exact bodyPost_ret (v:= .agg #[.slice A L.length c,.int .i64 (i':Nat),.int .i64 n,.int .i64 at',.int .i64 er']) (by simp[results,Tryz.results95,go_sem,f1,f2,f3,f4,f5]) rfl ⟨⟨_,rfl,i',at',er',rfl,hi',ho'⟩,M.bel⟩
end Go.Proofs.YtpfhgkielakmoaaGreatDoor
set_option maxHeartbeats 8000000
set_option maxRecDepth 100000
set_option linter.unusedSimpArgs false
set_option linter.unusedVariables false
namespace Go.Proofs.YtpfhgkielakmoaaGreatDoor
open Go.RowKit Num
theorem d_word (t:List UInt8) (w:World):Calls Tryz.prog 163 #[.string ⟨t.toArray⟩] w fun e w'=>e= .returned (.bool (wordP t))∧Below w.heap.size w w':=by
 by_cases h0:t=[97,114,114,97,121]
 ·subst h0;go_enter Tryz.func163,Tryz.ntmps163;go_wp2_with fail;go_ret;exact ⟨rfl,Below.refl _ _⟩
 have f0:(t==[97,114,114,97,121])=false:=beq_false_of_ne h0;by_cases h1:t=[98,111,111,108]
 ·subst h1;go_enter Tryz.func163,Tryz.ntmps163;go_wp2_with fail;go_ret;exact ⟨rfl,Below.refl _ _⟩
 have f1:(t==[98,111,111,108])=false:=beq_false_of_ne h1;by_cases h2:t=[99,111,110,115,116,114,97,105,110,116]
 ·subst h2;go_enter Tryz.func163,Tryz.ntmps163;go_wp2_with fail;go_ret;exact ⟨rfl,Below.refl _ _⟩
 have f2:(t==[99,111,110,115,116,114,97,105,110,116])=false:=beq_false_of_ne h2;by_cases h3:t=[102,97,108,115,101]
 ·subst h3;go_enter Tryz.func163,Tryz.ntmps163;go_wp2_with fail;go_ret;exact ⟨rfl,Below.refl _ _⟩
 have f3:(t==[102,97,108,115,101])=false:=beq_false_of_ne h3;by_cases h4:t=[105,110,116]
 ·subst h4;go_enter Tryz.func163,Tryz.ntmps163;go_wp2_with fail;go_ret;exact ⟨rfl,Below.refl _ _⟩
 have f4:(t==[105,110,116])=false:=beq_false_of_ne h4;by_cases h5:t=[109,97,120,105,109,105,122,101]
 ·subst h5;go_enter Tryz.func163,Tryz.ntmps163;go_wp2_with fail;go_ret;exact ⟨rfl,Below.refl _ _⟩
 have f5:(t==[109,97,120,105,109,105,122,101])=false:=beq_false_of_ne h5;by_cases h6:t=[109,105,110,105,109,105,122,101]
 ·subst h6;go_enter Tryz.func163,Tryz.ntmps163;go_wp2_with fail;go_ret;exact ⟨rfl,Below.refl _ _⟩
 have f6:(t==[109,105,110,105,109,105,122,101])=false:=beq_false_of_ne h6;by_cases h7:t=[111,102]
 ·subst h7;go_enter Tryz.func163,Tryz.ntmps163;go_wp2_with fail;go_ret;exact ⟨rfl,Below.refl _ _⟩
 have f7:(t==[111,102])=false:=beq_false_of_ne h7;by_cases h8:t=[111,117,116,112,117,116,95,97,114,114,97,121]
 ·subst h8;go_enter Tryz.func163,Tryz.ntmps163;go_wp2_with fail;go_ret;exact ⟨rfl,Below.refl _ _⟩
 have f8:(t==[111,117,116,112,117,116,95,97,114,114,97,121])=false:=beq_false_of_ne h8;by_cases h9:t=[111,117,116,112,117,116,95,118,97,114]
 ·subst h9;go_enter Tryz.func163,Tryz.ntmps163;go_wp2_with fail;go_ret;exact ⟨rfl,Below.refl _ _⟩
 have f9:(t==[111,117,116,112,117,116,95,118,97,114])=false:=beq_false_of_ne h9;by_cases h10:t=[115,97,116,105,115,102,121]
 ·subst h10;go_enter Tryz.func163,Tryz.ntmps163;go_wp2_with fail;go_ret;exact ⟨rfl,Below.refl _ _⟩
 have f10:(t==[115,97,116,105,115,102,121])=false:=beq_false_of_ne h10;by_cases h11:t=[115,111,108,118,101]
 ·subst h11;go_enter Tryz.func163,Tryz.ntmps163;go_wp2_with fail;go_ret;exact ⟨rfl,Below.refl _ _⟩
 have f11:(t==[115,111,108,118,101])=false:=beq_false_of_ne h11;by_cases h12:t=[116,114,117,101]
 ·subst h12;go_enter Tryz.func163,Tryz.ntmps163;go_wp2_with fail;go_ret;exact ⟨rfl,Below.refl _ _⟩
 have f12:(t==[116,114,117,101])=false:=beq_false_of_ne h12;by_cases h13:t=[118,97,114]
 ·subst h13;go_enter Tryz.func163,Tryz.ntmps163;go_wp2_with fail;go_ret;exact ⟨rfl,Below.refl _ _⟩
 have f13:(t==[118,97,114])=false:=beq_false_of_ne h13;have HW:=Lib.hid (show wordP t=false by simp[wordP,words,h0,h1,h2,h3,h4,h5,h6,h7,h8,h9,h10,h11,h12,h13]);clear h0 h1 h2 h3 h4 h5 h6 h7 h8 h9 h10 h11 h12 h13;go_enter Tryz.func163,Tryz.ntmps163;go_wp2_with fail;refine bodyPost_ret (v:= .bool false) (by simp[results,Tryz.results163,go_sem]) rfl ⟨by rw[HW.out],Below.refl _ _⟩
def numO (o:Option (List Tok)):Bool:=match o with
 |some (t::_)=>t.k==2
 |_=>false
def namedO (o:Option (List Tok)):Bool:=match o with
 |some (t::_)=>t.k==1&& !wordP t.t
 |_=>false
theorem d_number {A:Option Addr} {c:Nat} {L:List Tok} {n:Int} {v:Value} {o:Option (List Tok)} {w:World} (hR:RdT w A c L) (h:DS A c L n v o):Calls Tryz.prog 148 #[v] w fun e w'=>e= .returned (.bool (numO o))∧Below w.heap.size w w':=by
 have h':=h;obtain ⟨i,at_,er,rfl,hi,ho⟩:=h;have q0:=below_alloc1 w (.cells #[.slice A L.length c,.int .i64 (i:Nat),.int .i64 n,.int .i64 at_,.int .i64 er] 133);cases o with
 |none=>
  have h1:(er==0)=false:=beq_false_of_ne ho;clear hR h';go_enter Tryz.func148,Tryz.ntmps148;go_wp2_with fail;refine bodyPost_ret (v:= .bool false) (by simp[results,Tryz.results148,go_sem]) rfl ⟨rfl,q0⟩
 |some r=>
  obtain ⟨rfl,rfl⟩:=ho;by_cases hl:i<L.length
  ·have d1:decide ((i:Int)<(L.length:Int))=true:=decide_eq_true (by omega);have d2:(i:Int)<(L.length:Int):=by omega
   obtain ⟨b,oo,hA,hb,hc⟩:=hR.at_ (lt_ne0 hl);obtain ⟨c1,c2,c3,c4⟩:=hc i hl;subst hA;have HE:=Lib.hid (show numO (some (L.drop i))=(L[i].k==2) by rw[drop_head hl];rfl);clear hc hR h';generalize L[i].k=p at*;go_enter Tryz.func148,Tryz.ntmps148;go_wp2_with fail;refine bodyPost_ret (v:= .bool (p==2)) (by simp[results,Tryz.results148,go_sem]) rfl ⟨by rw[HE.out],q0⟩
  ·have d1:decide ((i:Int)<(L.length:Int))=false:=decide_eq_false (by omega);have HE:=Lib.hid (show numO (some (L.drop i))=false by rw[List.drop_eq_nil_of_le (by omega)];rfl);clear hR h';go_enter Tryz.func148,Tryz.ntmps148;go_wp2_with fail;refine bodyPost_ret (v:= .bool false) (by simp[results,Tryz.results148,go_sem]) rfl ⟨by rw[HE.out],q0⟩
theorem d_named {A:Option Addr} {c:Nat} {L:List Tok} {n:Int} {v:Value} {o:Option (List Tok)} {w:World} (hR:RdT w A c L) (h:DS A c L n v o):Calls Tryz.prog 154 #[v] w fun e w'=>e= .returned (.bool (namedO o))∧Below w.heap.size w w':=by
 have h':=h;obtain ⟨i,at_,er,rfl,hi,ho⟩:=h;have q0:=below_alloc1 w (.cells #[.slice A L.length c,.int .i64 (i:Nat),.int .i64 n,.int .i64 at_,.int .i64 er] 133);cases o with
 |none=>
  have h1:(er==0)=false:=beq_false_of_ne ho;clear hR h';go_enter Tryz.func154,Tryz.ntmps154;go_wp2_with fail;refine bodyPost_ret (v:= .bool false) (by simp[results,Tryz.results154,go_sem]) rfl ⟨rfl,q0⟩
 |some r=>
  obtain ⟨rfl,rfl⟩:=ho;by_cases hl:i<L.length
  ·have d1:decide ((i:Int)<(L.length:Int))=true:=decide_eq_true (by omega);have d2:(i:Int)<(L.length:Int):=by omega
   obtain ⟨b,oo,hA,hb,hc⟩:=hR.at_ (lt_ne0 hl);obtain ⟨c1,c2,c3,c4⟩:=hc i hl;subst hA;have HE:=Lib.hid (show namedO (some (L.drop i))=(L[i].k==1&& !wordP L[i].t) by rw[drop_head hl];rfl);clear hc hR h';generalize L[i].k=p at*;generalize L[i].t=u at*;by_cases hp:p=1
   ·subst hp;go_enter Tryz.func154,Tryz.ntmps154;go_wp2_with fail;refine (d_word u _).mono ?_;rintro e w1 ⟨rfl,q1⟩;cases hw:wordP u with
    |true=>
     rw[hw]at HE;go_wp2_with fail;refine bodyPost_ret (v:= .bool false) (by simp[results,Tryz.results154,go_sem]) rfl ⟨by rw[HE.out];rfl,below_trans q0 q1⟩
    |false=>
     rw[hw]at HE;go_wp2_with fail;refine bodyPost_ret (v:= .bool true) (by simp[results,Tryz.results154,go_sem]) rfl ⟨by rw[HE.out];rfl,below_trans q0 q1⟩
   ·have hp1:(p==1)=false:=beq_false_of_ne hp;have HP:=Lib.hid hp1;go_enter Tryz.func154,Tryz.ntmps154;go_wp2_with fail;refine bodyPost_ret (v:= .bool false) (by simp[results,Tryz.results154,go_sem]) rfl ⟨by rw[HE.out,HP.out];rfl,q0⟩
  ·have d1:decide ((i:Int)<(L.length:Int))=false:=decide_eq_false (by omega);have HE:=Lib.hid (show namedO (some (L.drop i))=false by rw[List.drop_eq_nil_of_le (by omega)];rfl);clear hR h';go_enter Tryz.func154,Tryz.ntmps154;go_wp2_with fail;refine bodyPost_ret (v:= .bool false) (by simp[results,Tryz.results154,go_sem]) rfl ⟨by rw[HE.out],q0⟩
def nameO (o:Option (List Tok)):Option (List Tok)×List UInt8:=match o with
 |some (t::r)=>if namedO (some (t::r)) then (some r,t.t) else (none,[])
 |_=>(none,[])
theorem d_name {A:Option Addr} {c:Nat} {L:List Tok} {n:Int} {v:Value} {o:Option (List Tok)} {w:World} (hR:RdT w A c L) (h:DS A c L n v o) (hL:L.length≤10000):Calls Tryz.prog 129 #[v] w fun e w'=>(∃v',e= .returned (.tuple #[v',.string ⟨(nameO o).2.toArray⟩])∧DS A c L n v' (nameO o).1)∧Below w.heap.size w w':=by
 have h':=h;obtain ⟨i,at_,er,rfl,hi,ho⟩:=h;have M0:Mem w ((w.alloc (.cells #[.slice A L.length c,.int .i64 (i:Nat),.int .i64 n,.int .i64 at_,.int .i64 er] 133)).alloc (.cells #[.slice none 0 0,.int .i64 0,.int .i64 0,.int .i64 0,.int .i64 0] 133)) [(w.heap.size+1,133,zS5),(w.heap.size,133,#[.slice A L.length c,.int .i64 (i:Nat),.int .i64 n,.int .i64 at_,.int .i64 er])] []:=((Mem.start w).new 133 _).newAt (by simp) 133 _;have hR0:=hR.below M0.bel (Nat.le_refl _);cases o with
 |none=>
  have h1:(er !=0)=true:=(by simpa using ho);clear hR hR0 h' M0;go_enter Tryz.func129,Tryz.ntmps129;go_wp2_with fail;refine bodyPost_ret (v:= .tuple #[.agg #[.slice A L.length c,.int .i64 (i:Nat),.int .i64 n,.int .i64 at_,.int .i64 er],.string ⟨#[]⟩]) (by simp[results,Tryz.results129,go_sem]) rfl ⟨⟨_,rfl,i,at_,er,rfl,hi,ho⟩,?_⟩;exact below_trans (below_alloc1 _ _) (below_alloc1 _ _)
 |some r=>
  obtain ⟨rfl,rfl⟩:=ho;have HI:=Lib.hid (d_named hR0 h');have HW:=Lib.hid (fun (w':World) (q:Below w.heap.size w w')=>d_wrong (hR.below q (Nat.le_refl _)) h');cases hb:namedO (some (L.drop i)) with
  |true=>
   have hl:i<L.length:=by
    rcases Nat.lt_or_ge i L.length with h|h
    ·exact h
    ·rw[List.drop_eq_nil_of_le h]at hb;cases hb
   have d2:(i:Int)<(L.length:Int):=by omega
   obtain ⟨b,oo,hA,hbl,hc⟩:=hR.at_ (lt_ne0 hl);obtain ⟨c1,c2,c3,c4⟩:=hc i hl;subst hA;have HC:=Lib.hid c2;have HE:=Lib.hid (show nameO (some (L.drop i))=(some (L.drop (i+1)),L[i].t) by
    rw[drop_head hl]at hb⊢;exact if_pos hb)
   have HD:=Lib.hid (ds_next (A:=some ⟨b,oo,none⟩) (c:=c) (n:=n) (at_:=at_) hl);rw[hb]at HI;clear hc hR hR0 h' HW c1 c2 c3 c4 hb;generalize L[i].t=p at*;go_enter Tryz.func129,Tryz.ntmps129;go_wp2_with fail;refine HI.out.mono ?_;rintro e w1 ⟨rfl,q1⟩;have M:=M0.below q1;clear M0 HI q1;generalize L.length=m at*;go_upto_region 5 with fail;refine region_st (n:=11) (frame:= ?frame1) (fun jK=>[.val (.fix (.agg #[.slice (some ⟨b,oo,none⟩) m c,.int .i64 (i:Nat),.int .i64 n,.int .i64 at_,.int .i64 0])),.val (.fix (.agg #[.slice (some ⟨b,oo,none⟩) m c,.int .i64 ((i:Int)+1),.int .i64 n,.int .i64 at_,.int .i64 0])),.val (.fix (.pointer (some ⟨w.heap.size,0,none⟩))),.val (.fix (.slice (some ⟨b,oo,none⟩) m c)),.val (.fix (.pointer (some ⟨w.heap.size,1,none⟩))),.val (.fix (.int .i64 (i:Nat))),.val (.fix (.pointer (some ⟨b,oo+i*4,none⟩))),.val (.fix (.pointer (some ⟨b,oo+i*4+1,none⟩))),.val (.fix (.string ⟨p.toArray⟩)),.none,.val (.fix (.string ⟨p.toArray⟩))].getD jK .none) [⟨w.heap.size+1,9,133,#[.slice none 0 0,.int .i64 0,.int .i64 0,.int .i64 0,.int .i64 0],.fix #[.slice (some ⟨b,oo,none⟩) m c,.int .i64 ((i:Int)+1),.int .i64 n,.int .i64 at_,.int .i64 0]⟩] (by kernel_rfl) (by kernel_rfl) (by kernel_rfl) rfl (Mem.tailK M) (own_of M (by omega) (by simp<;>omega) rfl) own_one ?_ ?_ ?_
   case refine_1=>
    intro s;simp only[fr,Act.put,List.append_eq,List.cons_append,List.nil_append,List.setIfInBounds_toArray,List.set_cons_zero,List.set_cons_succ,Nat.reduceAdd];rfl
   case refine_2=>
    refine SC 0 1 rfl ?_ (SC 1 2 rfl ?_ (SC 2 3 rfl ?_ (SC 3 4 rfl ?_ (SC 4 5 rfl ?_ (SC 5 6 rfl ?_ (SC 6 7 rfl ?_ (SC 7 8 rfl ?_ (SC 8 9 rfl ?_ (SC 9 10 rfl ?_ (SC 10 11 rfl ?_ Steps.nil))))))))));all_goals (intro L s w9 hN hU hi hS K hK;dsimp only at hK⊢;simp only[Act.put,List.setIfInBounds_toArray,List.set_cons_zero,List.set_cons_succ]at hK)
    ·obtain ⟨u1,u2,u3,u4,u5⟩:=Blk.five (hS.mem.k (i:=0) rfl);go_simp;exact hK.out _ _ (hS.val rfl rfl (Below.refl _ _) rfl)
    ·have e0:=hS.fx 0 rfl rfl (hN.out 0 rfl);simp only[e0]at hK⊢;go_simp;go_at_call 127;refine (d_next (some ⟨b,oo,none⟩) c m n at_ 0 i (by omega) _).mono ?_;rintro e9 w10 ⟨rfl,q⟩;exact hK.out _ _ (hS.val rfl rfl q rfl)
    ·go_simp;exact hK.out _ _ (hS.val rfl rfl (Below.refl _ _) rfl)
    ·have e2:=hS.fx 2 rfl rfl (hN.out 2 rfl);simp only[e2]at hK⊢;obtain ⟨u1,u2,u3,u4,u5⟩:=Blk.five (hS.mem.k (i:=0) rfl);go_simp;exact hK.out _ _ (hS.val rfl rfl (Below.refl _ _) rfl)
    ·go_simp;exact hK.out _ _ (hS.val rfl rfl (Below.refl _ _) rfl)
    ·have e4:=hS.fx 4 rfl rfl (hN.out 4 rfl);simp only[e4]at hK⊢;obtain ⟨u1,u2,u3,u4,u5⟩:=Blk.five (hS.mem.k (i:=0) rfl);go_simp;exact hK.out _ _ (hS.val rfl rfl (Below.refl _ _) rfl)
    ·have e3:=hS.fx 3 rfl rfl (hN.out 3 rfl);simp only[e3]at hK⊢;have e5:=hS.fx 5 rfl rfl (hN.out 5 rfl);simp only[e5]at hK⊢;have z1:=d2;go_simp;exact hK.out _ _ (hS.val rfl rfl (Below.refl _ _) rfl)
    ·have e6:=hS.fx 6 rfl rfl (hN.out 6 rfl);simp only[e6]at hK⊢;go_simp;exact hK.out _ _ (hS.val rfl rfl (Below.refl _ _) rfl)
    ·have e7:=hS.fx 7 rfl rfl (hN.out 7 rfl);simp only[e7]at hK⊢;have z1:=(hS.mem.bel.cell (p:=⟨b,oo+i*4+1,none⟩) hbl).trans HC.out;go_simp;exact hK.out _ _ (hS.val rfl rfl (Below.refl _ _) rfl)
    ·have e1:=hS.fx 1 rfl rfl (hN.out 1 rfl);simp only[e1]at hK⊢;obtain ⟨_,_,_,cs9,b9,n9,z9,_⟩:=hS.own_at 0 rfl;obtain rfl:=z9 hi.out;refine ite_of rfl ?_;refine wp_store_row _ _ _ rfl (w.heap.size+1) _ rfl rfl _ _ b9 info_st rfl (by rw[←Array.all_toList];rfl) ?_;simp only[Act.put];exact hK.out undef _ (hS.fillOwn (u:=undef) rfl (k:=0) rfl rfl rfl (setRow_grown _ _ _) (b9.row _) rfl rfl)
    ·have e8:=hS.fx 8 rfl rfl (hN.out 8 rfl);simp only[e8]at hK⊢;go_simp;exact hK.out _ _ (hS.val rfl rfl (Below.refl _ _) rfl)
   intro L s w9 hall hS;obtain ⟨_,_,_,ocs,ob,on,_,oz⟩:=hS.own_at 0 rfl;obtain rfl:=oz (hall 9 (by decide));have e10:s 10= .string ⟨p.toArray⟩:=hS.val_at 10 rfl (by decide) (hall 10 (by decide));obtain ⟨f1,f2,f3,f4,f5⟩:=ob.five;have bel:=hS.mem.bel;go_wp2;refine bodyPost_ret (v:= .tuple #[.agg #[.slice (some ⟨b,oo,none⟩) m c,.int .i64 ((i:Int)+1),.int .i64 n,.int .i64 at_,.int .i64 0],.string ⟨p.toArray⟩]) (by simp[results,Tryz.results129,go_sem,f1,f2,f3,f4,f5,e10]) rfl ⟨⟨_,by rw[HE.out],by rw[HE.out];exact HD.out⟩,bel⟩
  |false=>
   have e1:nameO (some (L.drop i))=(none,[]):=by
    cases hd:L.drop i with
    |nil=>rfl
    |cons t r=>
     rw[hd]at hb;exact if_neg (by rw[hb];decide)
   rw[hb]at HI;rw[e1];clear hR hR0 h' e1 hb;go_enter Tryz.func129,Tryz.ntmps129;go_wp2_with fail;refine HI.out.mono ?_;rintro e w1 ⟨rfl,q1⟩;have M1:=M0.below q1;obtain ⟨m1,m2,m3,m4,m5⟩:=(M1.k (i:=1) rfl).five;go_wp2_with fail;refine (HW.out w1 M1.bel).mono ?_;rintro e w2 ⟨⟨v',rfl,hv⟩,q2⟩;obtain ⟨i',at',er',rfl,hi',ho'⟩:=hv;have M:=M1.below q2;clear M0 M1 HI m1 m2 m3 m4 m5 HW;go_wp2_with ((with_reducible refine st_ ?_);refine wp_put2 _ _ (M.k (i:=0) rfl) rfl rfl rfl rfl info_st rfl rfl ?_;intro w4 b4 g4;replace M:=M.rowAt (i:=0) rfl (by omega) (by simp<;>omega) rfl b4 g4;obtain ⟨f1,f2,f3,f4,f5⟩:=(M.k (i:=0) rfl).five);exact bodyPost_ret (v:= .tuple #[.agg #[.slice A L.length c,.int .i64 (i':Nat),.int .i64 n,.int .i64 at',.int .i64 er'],.string ⟨#[]⟩]) (by simp[results,Tryz.results129,go_sem,f1,f2,f3,f4,f5]) rfl ⟨⟨_,rfl,i',at',er',rfl,hi',ho'⟩,M.bel⟩
def intO (o:Option (List Tok)):Option (List Tok)×Int:=match o with
 |some (t::r)=>if numO (some (t::r)) then (some r,t.v) else (none,0)
 |_=>(none,0)
theorem d_integer {A:Option Addr} {c:Nat} {L:List Tok} {n:Int} {v:Value} {o:Option (List Tok)} {w:World} (hR:RdT w A c L) (h:DS A c L n v o) (hL:L.length≤10000):Calls Tryz.prog 152 #[v] w fun e w'=>(∃v',e= .returned (.tuple #[v',.int .i64 (intO o).2])∧DS A c L n v' (intO o).1)∧Below w.heap.size w w':=by
 have h':=h;obtain ⟨i,at_,er,rfl,hi,ho⟩:=h;have M0:Mem w ((w.alloc (.cells #[.slice A L.length c,.int .i64 (i:Nat),.int .i64 n,.int .i64 at_,.int .i64 er] 133)).alloc (.cells #[.slice none 0 0,.int .i64 0,.int .i64 0,.int .i64 0,.int .i64 0] 133)) [(w.heap.size+1,133,zS5),(w.heap.size,133,#[.slice A L.length c,.int .i64 (i:Nat),.int .i64 n,.int .i64 at_,.int .i64 er])] []:=((Mem.start w).new 133 _).newAt (by simp) 133 _;have hR0:=hR.below M0.bel (Nat.le_refl _);cases o with
 |none=>
  have h1:(er !=0)=true:=(by simpa using ho);clear hR hR0 h' M0;go_enter Tryz.func152,Tryz.ntmps152;go_wp2_with fail;refine bodyPost_ret (v:= .tuple #[.agg #[.slice A L.length c,.int .i64 (i:Nat),.int .i64 n,.int .i64 at_,.int .i64 er],.int .i64 0]) (by simp[results,Tryz.results152,go_sem]) rfl ⟨⟨_,rfl,i,at_,er,rfl,hi,ho⟩,?_⟩;exact below_trans (below_alloc1 _ _) (below_alloc1 _ _)
 |some r=>
  obtain ⟨rfl,rfl⟩:=ho;have HI:=Lib.hid (d_number hR0 h');have HW:=Lib.hid (fun (w':World) (q:Below w.heap.size w w')=>d_wrong (hR.below q (Nat.le_refl _)) h');cases hb:numO (some (L.drop i)) with
  |true=>
   have hl:i<L.length:=by
    rcases Nat.lt_or_ge i L.length with h|h
    ·exact h
    ·rw[List.drop_eq_nil_of_le h]at hb;cases hb
   have d2:(i:Int)<(L.length:Int):=by omega
   obtain ⟨b,oo,hA,hbl,hc⟩:=hR.at_ (lt_ne0 hl);obtain ⟨c1,c2,c3,c4⟩:=hc i hl;subst hA;have HC:=Lib.hid c3;have HE:=Lib.hid (show intO (some (L.drop i))=(some (L.drop (i+1)),L[i].v) by
    rw[drop_head hl]at hb⊢;exact if_pos hb)
   have HD:=Lib.hid (ds_next (A:=some ⟨b,oo,none⟩) (c:=c) (n:=n) (at_:=at_) hl);rw[hb]at HI;clear hc hR hR0 h' HW c1 c2 c3 c4 hb;generalize L[i].v=p at*;go_enter Tryz.func152,Tryz.ntmps152;go_wp2_with fail;refine HI.out.mono ?_;rintro e w1 ⟨rfl,q1⟩;have M:=M0.below q1;clear M0 HI q1;generalize L.length=m at*;go_upto_region 5 with fail;refine region_st (n:=11) (frame:= ?frame2) (fun jK=>[.val (.fix (.agg #[.slice (some ⟨b,oo,none⟩) m c,.int .i64 (i:Nat),.int .i64 n,.int .i64 at_,.int .i64 0])),.val (.fix (.agg #[.slice (some ⟨b,oo,none⟩) m c,.int .i64 ((i:Int)+1),.int .i64 n,.int .i64 at_,.int .i64 0])),.val (.fix (.pointer (some ⟨w.heap.size,0,none⟩))),.val (.fix (.slice (some ⟨b,oo,none⟩) m c)),.val (.fix (.pointer (some ⟨w.heap.size,1,none⟩))),.val (.fix (.int .i64 (i:Nat))),.val (.fix (.pointer (some ⟨b,oo+i*4,none⟩))),.val (.fix (.pointer (some ⟨b,oo+i*4+2,none⟩))),.val (.fix (.int .i64 p)),.none,.val (.fix (.int .i64 p))].getD jK .none) [⟨w.heap.size+1,9,133,#[.slice none 0 0,.int .i64 0,.int .i64 0,.int .i64 0,.int .i64 0],.fix #[.slice (some ⟨b,oo,none⟩) m c,.int .i64 ((i:Int)+1),.int .i64 n,.int .i64 at_,.int .i64 0]⟩] (by kernel_rfl) (by kernel_rfl) (by kernel_rfl) rfl (Mem.tailK M) (own_of M (by omega) (by simp<;>omega) rfl) own_one ?_ ?_ ?_
   case refine_1=>
    intro s;simp only[fr,Act.put,List.append_eq,List.cons_append,List.nil_append,List.setIfInBounds_toArray,List.set_cons_zero,List.set_cons_succ,Nat.reduceAdd];rfl
   case refine_2=>
    refine SC 0 1 rfl ?_ (SC 1 2 rfl ?_ (SC 2 3 rfl ?_ (SC 3 4 rfl ?_ (SC 4 5 rfl ?_ (SC 5 6 rfl ?_ (SC 6 7 rfl ?_ (SC 7 8 rfl ?_ (SC 8 9 rfl ?_ (SC 9 10 rfl ?_ (SC 10 11 rfl ?_ Steps.nil))))))))));all_goals (intro L s w9 hN hU hi hS K hK;dsimp only at hK⊢;simp only[Act.put,List.setIfInBounds_toArray,List.set_cons_zero,List.set_cons_succ]at hK)
    ·obtain ⟨u1,u2,u3,u4,u5⟩:=Blk.five (hS.mem.k (i:=0) rfl);go_simp;exact hK.out _ _ (hS.val rfl rfl (Below.refl _ _) rfl)
    ·have e0:=hS.fx 0 rfl rfl (hN.out 0 rfl);simp only[e0]at hK⊢;go_simp;go_at_call 127;refine (d_next (some ⟨b,oo,none⟩) c m n at_ 0 i (by omega) _).mono ?_;rintro e9 w10 ⟨rfl,q⟩;exact hK.out _ _ (hS.val rfl rfl q rfl)
    ·go_simp;exact hK.out _ _ (hS.val rfl rfl (Below.refl _ _) rfl)
    ·have e2:=hS.fx 2 rfl rfl (hN.out 2 rfl);simp only[e2]at hK⊢;obtain ⟨u1,u2,u3,u4,u5⟩:=Blk.five (hS.mem.k (i:=0) rfl);go_simp;exact hK.out _ _ (hS.val rfl rfl (Below.refl _ _) rfl)
    ·go_simp;exact hK.out _ _ (hS.val rfl rfl (Below.refl _ _) rfl)
    ·have e4:=hS.fx 4 rfl rfl (hN.out 4 rfl);simp only[e4]at hK⊢;obtain ⟨u1,u2,u3,u4,u5⟩:=Blk.five (hS.mem.k (i:=0) rfl);go_simp;exact hK.out _ _ (hS.val rfl rfl (Below.refl _ _) rfl)
    ·have e3:=hS.fx 3 rfl rfl (hN.out 3 rfl);simp only[e3]at hK⊢;have e5:=hS.fx 5 rfl rfl (hN.out 5 rfl);simp only[e5]at hK⊢;have z1:=d2;go_simp;exact hK.out _ _ (hS.val rfl rfl (Below.refl _ _) rfl)
    ·have e6:=hS.fx 6 rfl rfl (hN.out 6 rfl);simp only[e6]at hK⊢;go_simp;exact hK.out _ _ (hS.val rfl rfl (Below.refl _ _) rfl)
    ·have e7:=hS.fx 7 rfl rfl (hN.out 7 rfl);simp only[e7]at hK⊢;have z1:=(hS.mem.bel.cell (p:=⟨b,oo+i*4+2,none⟩) hbl).trans HC.out;go_simp;exact hK.out _ _ (hS.val rfl rfl (Below.refl _ _) rfl)
    ·have e1:=hS.fx 1 rfl rfl (hN.out 1 rfl);simp only[e1]at hK⊢;obtain ⟨_,_,_,cs9,b9,n9,z9,_⟩:=hS.own_at 0 rfl;obtain rfl:=z9 hi.out;refine ite_of rfl ?_;refine wp_store_row _ _ _ rfl (w.heap.size+1) _ rfl rfl _ _ b9 info_st rfl (by rw[←Array.all_toList];rfl) ?_;simp only[Act.put];exact hK.out undef _ (hS.fillOwn (u:=undef) rfl (k:=0) rfl rfl rfl (setRow_grown _ _ _) (b9.row _) rfl rfl)
    ·have e8:=hS.fx 8 rfl rfl (hN.out 8 rfl);simp only[e8]at hK⊢;go_simp;exact hK.out _ _ (hS.val rfl rfl (Below.refl _ _) rfl)
   intro L s w9 hall hS;obtain ⟨_,_,_,ocs,ob,on,_,oz⟩:=hS.own_at 0 rfl;obtain rfl:=oz (hall 9 (by decide));have e10:s 10= .int .i64 p:=hS.val_at 10 rfl (by decide) (hall 10 (by decide));obtain ⟨f1,f2,f3,f4,f5⟩:=ob.five;have bel:=hS.mem.bel;go_wp2;refine bodyPost_ret (v:= .tuple #[.agg #[.slice (some ⟨b,oo,none⟩) m c,.int .i64 ((i:Int)+1),.int .i64 n,.int .i64 at_,.int .i64 0],.int .i64 p]) (by simp[results,Tryz.results152,go_sem,f1,f2,f3,f4,f5,e10]) rfl ⟨⟨_,by rw[HE.out],by rw[HE.out];exact HD.out⟩,bel⟩
  |false=>
   have e1:intO (some (L.drop i))=(none,0):=by
    cases hd:L.drop i with
    |nil=>rfl
    |cons t r=>
     rw[hd]at hb;exact if_neg (by rw[hb];decide)
   rw[hb]at HI;rw[e1];clear hR hR0 h' e1 hb;go_enter Tryz.func152,Tryz.ntmps152;go_wp2_with fail;refine HI.out.mono ?_;rintro e w1 ⟨rfl,q1⟩;have M1:=M0.below q1;obtain ⟨m1,m2,m3,m4,m5⟩:=(M1.k (i:=1) rfl).five;go_wp2_with fail;refine (HW.out w1 M1.bel).mono ?_;rintro e w2 ⟨⟨v',rfl,hv⟩,q2⟩;obtain ⟨i',at',er',rfl,hi',ho'⟩:=hv;have M:=M1.below q2;clear M0 M1 HI m1 m2 m3 m4 m5 HW;go_wp2_with ((with_reducible refine st_ ?_);refine wp_put2 _ _ (M.k (i:=0) rfl) rfl rfl rfl rfl info_st rfl rfl ?_;intro w4 b4 g4;replace M:=M.rowAt (i:=0) rfl (by omega) (by simp<;>omega) rfl b4 g4;obtain ⟨f1,f2,f3,f4,f5⟩:=(M.k (i:=0) rfl).five);exact bodyPost_ret (v:= .tuple #[.agg #[.slice A L.length c,.int .i64 (i':Nat),.int .i64 n,.int .i64 at',.int .i64 er'],.int .i64 0]) (by simp[results,Tryz.results152,go_sem,f1,f2,f3,f4,f5]) rfl ⟨⟨_,rfl,i',at',er',rfl,hi',ho'⟩,M.bel⟩
end Go.Proofs.YtpfhgkielakmoaaGreatDoor

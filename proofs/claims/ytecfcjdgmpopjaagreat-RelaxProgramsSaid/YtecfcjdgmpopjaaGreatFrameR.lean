/-
  Joined texts: Hs, Ia, FrameR.
-/
import Derived.Test.YtecfcjdgmpopjaaGreatHr
import Derived.Test.YtecfcjdgmpopjaaGreatGv
import Derived.Deep.CutBlock
import Derived.BigQuiet
import Derived.Test.YtecfcjdgmpopjaaGreatFrameP
set_option maxHeartbeats 40000000
set_option maxRecDepth 100000
set_option linter.unusedSimpArgs false
set_option linter.unusedVariables false
namespace Go.Proofs.YtecfcjdgmpopjaaGreat
open Go.RowKit Num
theorem rof_bad {w:World}{a:Mp}{m:Md}{D:Option Addr}{Dc:Nat}{ds:List Adr}{d:List (List (Int×Int))}(h:MdAt w a m)(hd:DsAt w D ds d)(hz:MdSz m)(hzd:MdSz {m with doms:=d})(hf:fitM m d=false):Calls Tryz.prog 11 #[.agg (mdC a m),.slice D d.length Dc] w fun e w'=>e= .returned (.tuple #[.agg zPD,.int .i64 2])∧Below w.heap.size w w':=by
 have HFit:=ZH fun(w':World)(q:Below w.heap.size w w')=>rfitD_any (Dc:=Dc) (h.below q) (hd.below q) hz hzd;rw[hf]at HFit;have M:=((Mem.start w).new 25 (mdC a m)).newAt (g:=w.heap.size+1) (by simp) 35 zPD;obtain⟨m0,m1,m2,m3⟩:=(M.k (i:=1) rfl).four;clear h hd hz hzd hf;go_enter Tryz.func11,Tryz.ntmps11;go_wp2_with fail;refine(HFit.out _ M.bel).mono ?_;rintro e w2 ⟨rfl,q2⟩;replace M:=M.below q2;clear m0 m1 m2 m3 q2;go_wp2_with ((with_reducible refine st_ ?_);refine wP2 _ _ (M.k (i:=0) rfl) rfl rfl rfl rfl info_pgD rfl rfl ?_;intro w5 b5 g5';replace M:=M.row (by omega) (by simp) rfl b5 g5');obtain⟨f0,f1,f2,f3,f4⟩:=(M.k (i:=0) rfl).fiveP;exact bodyPost_ret (v:= .tuple #[.agg zPD,.int .i64 2]) (by simp[results,Tryz.results11,go_sem,f0,f1,f2,f3,f4]) rfl ⟨rfl,M.bel⟩
theorem startC {m:Md}{d:List (List (Int×Int))}{n:Nat}{A B:Option Addr}{a b g cc:Nat}(hn:d.length=n):(#[.slice A n a,.slice B n b,.slice none 0 0,.slice none 0 0,.slice (some ⟨g,0,none⟩) n cc]:Array Value)=pgC ⟨(A,a),(B,b),(none,0),(none,0),(some ⟨g,0,none⟩,cc),[]⟩ (startP m d):=by
 show _=(#[.slice A (d.map loD).length a,.slice B (d.map hiD).length b,.slice none 0 0,.slice none 0 0,.slice (some ⟨g,0,none⟩) (costP d.length m.ask m.goal).length cc]:Array Value);rw[List.length_map,List.length_map,costP_in.1,hn]
theorem startAt {w:World}{m:Md}{d:List (List (Int×Int))}{A B:Option Addr}{a b g cc:Nat}(h1:IRow w A (d.map loD))(h2:IRow w B (d.map hiD))(h3:IRow w (some ⟨g,0,none⟩) (costP d.length m.ask m.goal)):PgAt w ⟨(A,a),(B,b),(none,0),(none,0),(some ⟨g,0,none⟩,cc),[]⟩ (startP m d):=
 ⟨h1,h2,fun j hj=>absurd hj (Nat.not_lt_zero _),h3,fun j hj=>absurd hj (Nat.not_lt_zero _),fun j hj=>absurd hj (Nat.not_lt_zero _)⟩
theorem rof_good {w:World}{a:Mp}{m:Md}{D:Option Addr}{Dc:Nat}{ds:List Adr}{d:List (List (Int×Int))}(h:MdAt w a m)(hd:DsAt w D ds d)(hz:MdSz m)(hzd:MdSz {m with doms:=d})(hf:fitM m d=true):Calls Tryz.prog 11 #[.agg (mdC a m),.slice D d.length Dc] w fun e w'=>Below w.heap.size w w'∧∃mm,e= .returned (.tuple #[.agg (pgC mm (ofP m d)),.int .i64 0])∧PgAt w' mm (ofP m d):=by
 have HFit:=ZH fun(w':World)(q:Below w.heap.size w w')=>rfitD_any (Dc:=Dc) (h.below q) (hd.below q) hz hzd;rw[hf]at HFit;obtain⟨g1,g2,g3,g4,g5,g6⟩:=fit_parts hf;have HM:=ZH h;have HD:=ZH hd;have HG4:=ZH g4;have HG5:=ZH g5;have HG6:=ZH g6;have HZD:=ZH hzd.ds;obtain⟨P',hP'⟩:∃P',ofP m d=P':=⟨_,rfl⟩;have HP:Hid (m.cons.foldl conP (startP m d)=P'):=hP';have HRW:=ZH fun(i:Nat)=>Rwp.cons (m.cons.take i) (Rwp.start m d) fun c hc=>may_in (g5 c (List.mem_of_mem_take hc));rw[hP'];have M:=((Mem.start w).new 25 (mdC a m)).newAt (g:=w.heap.size+1) (by simp) 35 zPD;obtain⟨m0,m1,m2,m3⟩:=(M.k (i:=1) rfl).four;clear h hd hz hzd hf g1 g4 g5 g6 hP';go_enter Tryz.func11,Tryz.ntmps11;go_wp2_with fail;refine(HFit.out _ M.bel).mono ?_;rintro e w2 ⟨rfl,q2⟩;replace M:=M.below q2;obtain⟨W2,hW2⟩:∃W2,W2=w2:=⟨_,rfl⟩;subst hW2;have HMM:=ZH M;have HQ2:=ZH M.bel;clear m0 m1 m2 m3 q2 HFit M;obtain⟨n,hn⟩:∃n,d.length=n:=⟨_,rfl⟩;have HN:=ZH hn;rw[hn]at g2⊢;clear hn;go_upto_region 4 with (at_make;refine wp_make64 _ _ _ n rfl rfl (by omega) rfl rfl rfl rfl ?_;intro w3 hrow3 hbel3);have M4:=(HMM.out.below hbel3).newAt (g:=w3.heap.size) rfl 35 #[.slice none 0 0,.slice none 0 0,.slice none 0 0,.slice none 0 0,.slice (some ⟨W2.heap.size,0,none⟩) n n];have hz4:=hrow3.below (bA1 w3 (.cells #[.slice none 0 0,.slice none 0 0,.slice none 0 0,.slice none 0 0,.slice (some ⟨W2.heap.size,0,none⟩) n n] 35)) ZL;have hg6:w.heap.size+1<w3.heap.size:=Nat.lt_of_lt_of_le (HMM.out.k (i:=0) rfl).lt hbel3.size;obtain⟨W5,hW5⟩:∃W,W=w3.alloc (.cells #[.slice none 0 0,.slice none 0 0,.slice none 0 0,.slice none 0 0,.slice (some ⟨W2.heap.size,0,none⟩) n n] 35):=⟨_,rfl⟩;rw[←hW5]at M4 hz4⊢;have hg5:w3.heap.size<W5.heap.size:=(M4.k (i:=0) rfl).lt;have hgz:W2.heap.size<w3.heap.size:=hrow3.lt;clear hbel3 hrow3 hW5 HQ2 HMM;generalize w3.heap.size=g6 at*;generalize W2.heap.size=gz at*;have HM4:=ZH M4;have HZ4:=ZH hz4;have HD5:=ZH (HD.out.below M4.bel);clear M4 hz4;go_wp2_with fail;go_loopg [9,7,8] n (fun kk pp v7 v8 wr=>∃(i:Nat)(A7:Option Addr)(c7:Nat)(A8:Option Addr)(c8:Nat),kk=n-i∧i≤n∧pp= .int .i64 (i:Nat)∧v7= .slice A7 i c7∧v8= .slice A8 i c8∧Hid (NRow wr W5.heap.size tyI6 1 (.slice A7 i c7) i (((d.take i).map loD).map iw))∧Hid (NRow wr W5.heap.size tyI6 1 (.slice A8 i c8) i (((d.take i).map hiD).map iw))∧Hid (∀k,bl A7=some k→bl A8≠some k)∧Hid (Below W5.heap.size W5 wr))
 case atStart=>exact⟨0,none,0,none,0,rfl,Nat.zero_le _,rfl,rfl,rfl,NRow.nil _ _ _ _,NRow.nil _ _ _ _,(fun k e=>by cases e),Below.refl _ _⟩
 case round=>
  obtain⟨i,A7,c7,A8,c8,hkk,hi,rfl,rfl,rfl,HN7,HN8,HNE,HQ⟩:=hrel;by_cases hlt:i<n
  ·have d1:decide ((i:Int)<(n:Int))=true:=dT (by omega);have hid:i<d.length:=by rw[HN.out];exact hlt
   obtain⟨gd,od,hda,cd⟩:=HD5.out.ap i hid;have CD:Lk W5 gd (od+i) (.slice (ds.getD i ad0).1 (d.getD i []).length (ds.getD i ad0).2):=Lk.of cd;have cd1:=CD _ HQ.out;have HDA:=ZH hda;rw[hda];have HRR:=ZH (HD5.out.ar i hid);have hdm:domB (d.getD i [])=true:=HG4.out _ (getD_in hid);have hrl:(d.getD i []).length≤1000:=HZD.out _ (getD_in hid);have hr0:0<(d.getD i []).length:=by
    unfold domB at hdm;rw[Bool.and_eq_true,decide_eq_true_eq]at hdm;omega
   have HX1:Hid (((d.take (i+1)).map loD).map iw=((d.take i).map loD).map iw++[iw (loD (d.getD i []))]):=by
    show _=_;rw[take_map loD hid,List.map_append];rfl
   have HX2:Hid (((d.take (i+1)).map hiD).map iw=((d.take i).map hiD).map iw++[iw (hiD (d.getD i []))]):=by
    show _=_;rw[take_map hiD hid,List.map_append];rfl
   clear hda hdm hid cd;generalize (ds.getD i ad0).1=DA at*;generalize (ds.getD i ad0).2=dc at*;generalize d.getD i []=row at*;generalize ((d.take i).map loD).map iw=xs7 at*;generalize ((d.take i).map hiD).map iw=xs8 at*;have hi6:i≤1000000:=by omega
   go_wp2_with fail;refine(rlo_any (HRR.out.below HQ.out) (by omega) hr0).mono ?_;rintro e w5 ⟨rfl,q5⟩;have HQ5:=ZH (HQ.out.trans (q5.mono HQ.out.size));have HN75:=ZH (HN7.out.below q5);have HN85:=ZH (HN8.out.below q5);have hw5:W5.heap.size≤w5.heap.size:=HQ5.out.size;generalize loD row=lo at*;clear cd1 q5 HN7 HN8 HQ;go_wp2_with (at_builtin;refine wp_appNu _ _ w5 W5.heap.size tyI6 1 (.slice A7 i c7) i xs7 #[iw lo] (by first|rfl|simp) Tryz.underlying28 info_i64o rfl rfl (by decide) (by decide) HN75.out hw5 hi6 rfl rfl rfl rfl rfl rfl rfl ?_;intro v7 w7 r1 r2 r3 r4;obtain⟨B7,e7,rfl⟩:=r1.slice;rw[own_bl]at r2 r4;rw[own_bl]at r4;have HS7:=ZH (stp_own (fun k hk=>HN75.out.boxBl hk) r2);have HN87:=ZH (HN85.out.stp HS7.out (fun g hg e=>HNE.out g e hg));have HQ7:=ZH (HQ5.out.trans r3);have cd7:=CD _ HQ7.out);have hne7:∀k,bl B7=some k→bl A8≠some k:=fun k e e9=>by
    rcases r4 with h|h
    ·exact HNE.out k (h▸e) e9
    ·have h1:=h k e;have h2:=(HN85.out.ltBl e9).2;omega
   have HNE7:=ZH hne7;have HR7:=ZH r1;clear r1 r2 r3 r4 hne7 HN75 HN85 HS7;refine(rhi_any (HRR.out.below HQ7.out) (by omega) hr0).mono ?_;rintro e w8 ⟨rfl,q8⟩;have HQ8:=ZH (HQ7.out.trans (q8.mono HQ7.out.size));have HN78:=ZH (HR7.out.below q8);have HN88:=ZH (HN87.out.below q8);have hw8:W5.heap.size≤w8.heap.size:=HQ8.out.size;generalize hiD row=top at*;clear q8 HR7 HN87 cd7;go_wp2_with (at_builtin;refine wp_appNu _ _ w8 W5.heap.size tyI6 1 (.slice A8 i c8) i xs8 #[iw top] (by first|rfl|simp) Tryz.underlying28 info_i64o rfl rfl (by decide) (by decide) HN88.out hw8 hi6 rfl rfl rfl rfl rfl rfl rfl ?_;intro v9 w9 s1 s2 s3 s4;obtain⟨B8,e8,rfl⟩:=s1.slice;rw[own_bl]at s2 s4;rw[own_bl]at s4);have hs8:=stp_own (fun k hk=>HN88.out.boxBl hk) s2;have hn78:=HN78.out.stp hs8 (fun g hg e=>HNE7.out g hg e);have hne6:∀k,bl B7=some k→bl B8≠some k:=fun k e e6=>by
    rcases s4 with h|h
    ·exact HNE7.out k e (h▸e6)
    ·have h1:=h k e6;have h2:=(HN78.out.ltBl e).2;omega
   rw[←HDA.out];go_roundg (n-(i+1))
   case measure=>omega
   case rel=>exact⟨i+1,B7,e7,B8,e8,rfl,by omega,by simp,rfl,rfl,by (show NRow _ _ _ _ _ _ _);rw[HX1.out];exact hn78,by (show NRow _ _ _ _ _ _ _);rw[HX2.out];exact s1,hne6,HQ8.out.trans s3⟩
  ·have d1:decide ((i:Int)<(n:Int))=false:=dF (by omega);obtain rfl:i=n:=by omega
   have MR:=HM4.out.below HQ.out;have hlo:IRow wr A7 (d.map loD):=IRow.own (by
    have:=HN7.out;rw[List.take_of_length_le (Nat.le_of_eq HN.out)]at this;rw[List.length_map,HN.out];exact this)
   have hhi:IRow wr A8 (d.map hiD):=IRow.own (by
    have:=HN8.out;rw[List.take_of_length_le (Nat.le_of_eq HN.out)]at this;rw[List.length_map,HN.out];exact this)
   have hze:IRow wr (some ⟨gz,0,none⟩) (List.replicate i 0):=iwC_row (HZ4.out.below HQ.out ZL);have k6:=MR.k (i:=0) rfl;have z0:=k6.frozen 0;have z1:=k6.frozen 1;obtain⟨f0,f1,f2,f3,f4⟩:=k6.fiveP;clear HN7 HN8 HNE HZ4;go_upto_region 12 with fail;have hgr:=grown_trans1 (gSC wr g6 0 (.slice A7 i c7)) (gSC (wr.setCell ⟨g6,0,none⟩ (.slice A7 i c7)) g6 1 (.slice A8 i c8));have hno:∀(j:Nat)(z:Int),(#[.slice none 0 0,.slice none 0 0,.slice none 0 0,.slice none 0 0,.slice (some ⟨gz,0,none⟩) i i]:Array Value)[j]?≠some (.int .i64 z):=no_int (fun _ e=>by cases e) (fun _ e=>by cases e) (fun _ e=>by cases e) (fun _ e=>by cases e) (fun _ e=>by cases e);have M6:Mem w ((wr.setCell ⟨g6,0,none⟩ (.slice A7 i c7)).setCell ⟨g6,1,none⟩ (.slice A8 i c8)) [(g6,35,#[.slice A7 i c7,.slice A8 i c8,.slice none 0 0,.slice none 0 0,.slice (some ⟨gz,0,none⟩) i i]),(w.heap.size+1,35,zPD),(w.heap.size,25,mdC a m)] []:=
    MR.row (by omega) (by simp;omega) rfl ((k6.set_ 0 (.slice A7 i c7)).set_ 1 (.slice A8 i c8)) hgr
   have HLO:=ZH (hlo.over k6 hno hgr);have HHI:=ZH (hhi.over k6 hno hgr);have HZE:=ZH (hze.over k6 hno hgr);obtain⟨W6,hW6⟩:∃W,W=(wr.setCell ⟨g6,0,none⟩ (.slice A7 i c7)).setCell ⟨g6,1,none⟩ (.slice A8 i c8):=⟨_,rfl⟩;rw[←hW6]at M6 HLO HHI HZE⊢;clear hW6 hgr hno k6 z0 z1 f0 f1 f2 f3 f4 hlo hhi hze MR HM4 HQ HD5;obtain⟨m0,m1,m2,m3⟩:=(M6.k (i:=2) rfl).four;have HM6:=ZH M6;have HNN:=ZH (show d.length=i from HN.out);clear M6;obtain⟨B,hB⟩:∃B,(m.ask !=0)=B:=⟨_,rfl⟩;go_upto_if 49 with fail;have HB:=ZH hB;clear hB;go_cut [] (fun wx=>∃mm,PgAt wx mm (startP m d)∧mm.a.1=none∧Mem w wx [(g6,35,pgC mm (startP m d)),(w.heap.size+1,35,zPD),(w.heap.size,25,mdC a m)] [])
   case first=>
    have hgo:m.ask=1∨m.ask=2→∃k:Nat,m.goal=k∧k<i:=fun e=>by
     have h6:=HG6.out;unfold askB at h6;dsimp only at h6;rw[if_neg (by omega),if_pos e,Bool.and_eq_true,decide_eq_true_eq,decide_eq_true_eq,HN.out]at h6;exact⟨m.goal.toNat,by omega,by omega⟩
    have hak:m.ask=0∨m.ask=1∨m.ask=2:=by
     have h6:=HG6.out;unfold askB at h6;dsimp only at h6;by_cases e0:m.ask=0
     ·exact .inl e0
     ·rw[if_neg e0]at h6;by_cases e1:m.ask=1∨m.ask=2
      ·exact .inr e1
      ·rw[if_neg e1]at h6;cases h6
    by_cases k0:m.ask=0
    ·have d2:B=false:=by rw[←HB.out,k0];rfl
     subst d2;have hc:costP d.length m.ask m.goal=List.replicate i 0:=by
      unfold costP;rw[if_neg (by omega),if_neg (by omega),HNN.out]
     have HS:=ZH (startAt (m:=m) (a:=c7) (b:=c8) (cc:=i) HLO.out HHI.out (by rw[hc];exact HZE.out));clear hc hgo hak k0;go_wp2_with fail;go_meet;exact⟨_,HS.out,rfl,by rw[←startC HNN.out];exact HM6.out⟩
    ·have d2:B=true:=by rw[←HB.out,bne_iff_ne];exact k0
     subst d2;obtain⟨k,hk,hkj⟩:=hgo (by omega);have HK:=ZH hk;rw[hk]at m3;clear hgo hk;go_upto_region 14 with (at_make;refine wp_make64 _ _ _ i rfl rfl (by omega) rfl rfl rfl rfl ?_;intro w7 hrow7 hbel7);have h67:g6<W6.heap.size:=(HM6.out.k (i:=0) rfl).lt;have M7:=(HM6.out.below hbel7).addK hrow7;have HNA:Hid (∀g,bl A7=some g→¬g=W6.heap.size):=fun g e e2=>by
      have:=CRow.lt HLO.out (by rw[List.length_map,HNN.out];omega) e;omega
     have HNB:Hid (∀g,bl A8=some g→¬g=W6.heap.size):=fun g e e2=>by
      have:=CRow.lt HHI.out (by rw[List.length_map,HNN.out];omega) e;omega
     have HLO7:=ZH (HLO.out.below hbel7);have HHI7:=ZH (HHI.out.below hbel7);clear hbel7 hrow7 HLO HHI HZE HM6 m0 m1 m2 m3;generalize W6.heap.size=g7 at*;have y7:=(M7.k (i:=0) rfl).frozen k;have ck:=iwC_cell (M7.k (i:=0) rfl) (j:=k) (by rw[List.length_replicate];exact hkj);obtain⟨m0,m1,m2,m3⟩:=(M7.k (i:=3) rfl).four;rw[HK.out]at m3;go_upto_region 15 with fail;have M8:=M7.row (by omega) (by simp;omega) (iwC_nu _) (by have:=(M7.k (i:=0) rfl).set_ k (iw (1));rw[iwC_set]at this;exact this) (gSC w7 g7 k (iw (1)));have hst:=Stp.wrote (S:=fun x=>x=g7) ((M7.k (i:=0) rfl).box (iwC_nu _)) (gSC w7 g7 k (iw (1))) rfl;have HLO8:=ZH (HLO7.out.stp hst HNA.out);have HHI8:=ZH (HHI7.out.stp hst HNB.out);clear hst M7 HLO7 HHI7 ck y7 m0 m1 m2 m3;obtain⟨W8,hW8⟩:∃W,W=(w7).setCell ⟨g7,k,none⟩ (iw (1)):=⟨_,rfl⟩;have hW9:W8=(w7).setCell ⟨g7,k,none⟩ (.int .i64 (1)):=hW8;rw[←hW8]at M8 HLO8 HHI8;rw[←hW9];clear hW8 hW9;rename Mem _ _ _ _=>M7;rename Hid (IRow _ A7 _)=>HLO7;rename Hid (IRow _ A8 _)=>HHI7;obtain⟨m0,m1,m2,m3⟩:=(M7.k (i:=3) rfl).four;rw[HK.out]at m3;by_cases k2:m.ask=2
     ·have d3:(m.ask==2)=true:=beq_iff_eq.2 k2;have HC:Hid (costP d.length m.ask m.goal=((List.replicate i 0).set k 1).set k (-1)):=by
       show _=_;unfold costP;rw[if_neg (by omega),if_pos k2,HNN.out,HK.out,List.set_set];rfl
      clear k2;have y7:=(M7.k (i:=0) rfl).frozen k;have ck:=iwC_cell (M7.k (i:=0) rfl) (j:=k) (by rw[List.length_set,List.length_replicate];exact hkj);go_upto_region 17 with fail;have M8:=M7.row (by omega) (by simp;omega) (iwC_nu _) (by have:=(M7.k (i:=0) rfl).set_ k (iw (-1));rw[iwC_set]at this;exact this) (gSC W8 g7 k (iw (-1)));have hst:=Stp.wrote (S:=fun x=>x=g7) ((M7.k (i:=0) rfl).box (iwC_nu _)) (gSC W8 g7 k (iw (-1))) rfl;have HLO8:=ZH (HLO7.out.stp hst HNA.out);have HHI8:=ZH (HHI7.out.stp hst HNB.out);clear hst M7 HLO7 HHI7 ck y7 m0 m1 m2 m3;obtain⟨W9,hW8⟩:∃W,W=(W8).setCell ⟨g7,k,none⟩ (iw (-1)):=⟨_,rfl⟩;have hW9:W9=(W8).setCell ⟨g7,k,none⟩ (.int .i64 (-1)):=hW8;rw[←hW8]at M8 HLO8 HHI8;rw[←hW9];clear hW8 hW9;rename Mem _ _ _ _=>M7;rename Hid (IRow _ A7 _)=>HLO7;rename Hid (IRow _ A8 _)=>HHI7;obtain⟨m0,m1,m2,m3⟩:=(M7.k (i:=3) rfl).four;rw[HK.out]at m3;obtain⟨f0,f1,f2,f3,f4⟩:=(M7.k (i:=1) rfl).fiveP;have z4:=(M7.k (i:=1) rfl).frozen 4;go_wp2_with fail;have k6:=M7.k (i:=1) rfl;have hgr:=gSC W9 g6 4 (.slice (some ⟨g7,0,none⟩) i i);have hno:∀(j:Nat)(z:Int),(#[.slice A7 i c7,.slice A8 i c8,.slice none 0 0,.slice none 0 0,.slice (some ⟨gz,0,none⟩) i i]:Array Value)[j]?≠some (.int .i64 z):=no_int (fun _ e=>by cases e) (fun _ e=>by cases e) (fun _ e=>by cases e) (fun _ e=>by cases e) (fun _ e=>by cases e);go_meet;refine⟨_,startAt (m:=m) (g:=g7) (a:=c7) (b:=c8) (cc:=i) (HLO7.out.over k6 hno hgr) (HHI7.out.over k6 hno hgr) ?_,rfl,?_⟩
      ·rw[HC.out];exact(iwC_row (M7.k (i:=0) rfl)).over k6 hno hgr
      ·rw[←startC HNN.out];exact((M7.rowAt (i:=1) rfl (by omega) (by simp;omega) rfl (k6.set_ 4 (.slice (some ⟨g7,0,none⟩) i i)) hgr).sub (by simp) (by simp))
     ·have d3:(m.ask==2)=false:=beq_false_of_ne k2;have HC:Hid (costP d.length m.ask m.goal=(List.replicate i 0).set k 1):=by
       show _=_;unfold costP;rw[if_pos (by omega),HNN.out,HK.out];rfl
      clear k2;obtain⟨f0,f1,f2,f3,f4⟩:=(M7.k (i:=1) rfl).fiveP;have z4:=(M7.k (i:=1) rfl).frozen 4;go_wp2_with fail;have k6:=M7.k (i:=1) rfl;have hgr:=gSC W8 g6 4 (.slice (some ⟨g7,0,none⟩) i i);have hno:∀(j:Nat)(z:Int),(#[.slice A7 i c7,.slice A8 i c8,.slice none 0 0,.slice none 0 0,.slice (some ⟨gz,0,none⟩) i i]:Array Value)[j]?≠some (.int .i64 z):=no_int (fun _ e=>by cases e) (fun _ e=>by cases e) (fun _ e=>by cases e) (fun _ e=>by cases e) (fun _ e=>by cases e);go_meet;refine⟨_,startAt (m:=m) (g:=g7) (a:=c7) (b:=c8) (cc:=i) (HLO7.out.over k6 hno hgr) (HHI7.out.over k6 hno hgr) ?_,rfl,?_⟩
      ·rw[HC.out];exact(iwC_row (M7.k (i:=0) rfl)).over k6 hno hgr
      ·rw[←startC HNN.out];exact((M7.rowAt (i:=1) rfl (by omega) (by simp;omega) rfl (k6.set_ 4 (.slice (some ⟨g7,0,none⟩) i i)) hgr).sub (by simp) (by simp))
   case rest=>
    clear HLO HHI HZE HM6 HB m0 m1 m2 m3;obtain⟨mm0,hp0,ha0,M6⟩:=hcut;have HP0:=ZH hp0;have HA0:=ZH ha0;have HM6:=ZH M6;clear hp0 ha0;obtain⟨m0,m1,m2,m3⟩:=(M6.k (i:=2) rfl).four;obtain⟨WC,hWC⟩:∃WC,WC=wc:=⟨_,rfl⟩;subst hWC;clear M6;go_wp2_with fail;go_loopg [11] m.cons.length (fun kk pp wr=>∃(t:Nat)(mm:Pa),kk=m.cons.length-t∧t≤m.cons.length∧pp= .int .i64 (t:Nat)∧Hid (PgAt wr mm ((m.cons.take t).foldl conP (startP m d)))∧Hid (∀x,bl mm.a.1=some x→g6<x)∧Hid (((m.cons.take t).foldl conP (startP m d)).b.length=((m.cons.take t).foldl conP (startP m d)).a.length)∧Hid (Mem w wr [(g6,35,pgC mm ((m.cons.take t).foldl conP (startP m d))),(w.heap.size+1,35,zPD),(w.heap.size,25,mdC a m)] []))
    case atStart=>exact⟨0,mm0,rfl,Nat.zero_le _,rfl,HP0.out,(fun x e=>by rw[HA0.out]at e;cases e),rfl,HM6.out⟩
    case round=>
     clear HP0 HA0 HM6 m0 m1 m2 m3;obtain⟨t,mm,hk2,ht,rfl,HR,HAB,HBL,HMR⟩:=hrel;obtain⟨m0,m1,m2,m3⟩:=(HMR.out.k (i:=2) rfl).four;by_cases hlt2:t<m.cons.length
     ·have d5:decide ((t:Int)<(m.cons.length:Int))=true:=dT (by omega);have HS:=ZH ((HM.out.cs.below HMR.out.bel).cr t hlt2);obtain⟨gc,oc,hca,e0,e1,e2,e3⟩:=(HM.out.cs.below HMR.out.bel).at hlt2;have HMY:=ZH (HG5.out (m.cons.getD t cn0) (getD_in hlt2));have HF:Hid ((m.cons.take (t+1)).foldl conP (startP m d)=rowsD ((m.cons.take t).foldl conP (startP m d)) (m.cons.getD t cn0)):=by
       show _=_;rw[take_fold hlt2,rows_con HMY.out]
      have hrw:=HRW.out t;have hq1:((m.cons.take t).foldl conP (startP m d)).lo.length=i:=by
       rw[hrw.lo];show(d.map loD).length=i;rw[List.length_map];exact HN.out
      have hq2:((m.cons.take t).foldl conP (startP m d)).a.length≤900:=by
       have:=hrw.ak;rw[List.length_take]at this;omega
      have HCA:=ZH hca;rw[hca]at m1;clear hrw hca;generalize m.cons.getD t cn0=cc at*;generalize a.xs.getD t ad0=xa at*;generalize a.as_.getD t ad0=aa at*;generalize (m.cons.take t).foldl conP (startP m d)=q at*;have hgw:g6<wr.heap.size:=(HMR.out.k (i:=0) rfl).lt;have HOFF:Hid (∀m',NewA wr.heap.size mm q m' (rowsD q cc)→∀x,bl m'.a.1=some x→g6<x):=fun m' hna x e=>by
       rcases hna with ⟨h,_⟩|h
       ·rw[h]at e;exact HAB.out x e
       ·have:=h x e;omega
      have E0:Lk wr gc (oc+t*4) (iw cc.k):=Lk.of e0;have E1:Lk wr gc (oc+t*4+1) (.slice xa.1 cc.x.length xa.2):=Lk.of e1;have E2:Lk wr gc (oc+t*4+2) (.slice aa.1 cc.a.length aa.2):=Lk.of e2;have E3:Lk wr gc (oc+t*4+3) (iw cc.c):=Lk.of e3;have HQ1:=ZH hq1;clear e0 e1 e2 e3 hq1;go_upto_region 21 with fail;refine region_gen0 (n:=8) (frame:= ?frame1) (fun L s w'=>Vs [oF (.agg (pgC mm q)),oP w.heap.size 1,oF (.slice (some ⟨gc,oc,none⟩) m.cons.length a.cons.2),oI ((t:Nat)),oP gc (oc+t*4),oF (.agg (cnC xa aa cc)),none,none] L s∧(L 6=false→((Mem w w' [(g6,35,pgC mm q),(w.heap.size+1,35,zPD),(w.heap.size,25,mdC a m)] []∧Below wr.heap.size wr w')))∧(L 6=true→L 7=false→((Mem w w' [(g6,35,pgC mm q),(w.heap.size+1,35,zPD),(w.heap.size,25,mdC a m)] []∧Below wr.heap.size wr w')∧∃m',s 6= .agg (pgC m' (rowsD q cc))∧PgAt w' m' (rowsD q cc)∧NewA wr.heap.size mm q m' (rowsD q cc)))∧(L 7=true→(∃m',PgAt w' m' (rowsD q cc)∧NewA wr.heap.size mm q m' (rowsD q cc)∧Mem w w' [(g6,35,pgC m' (rowsD q cc)),(w.heap.size+1,35,zPD),(w.heap.size,25,mdC a m)] []))) (by kernel_rfl) (by kernel_rfl) (by kernel_rfl) rfl ?_ ?_ ?_ ?_
      case refine_1=>exact⟨fun _ _ _ h=>no_f h,fun _=>⟨HMR.out.drew,(Read.refl _).drew.below _⟩,fun h=>no_f h,fun h=>no_f h⟩
      case refine_2=>
       intro s;simp only[fr,Act.put,zA,zB,zC,zD,zE,zF,Nat.reduceAdd];rfl
      case refine_3=>
       iterate 8 (refine SN ?_ ?_;rotate_left)
       exact Steps.nil;all_goals (intro L s w9 hN hU hi hC hS K hK;dsimp only at hK⊢;simp only[Act.put,zD,zE,zF]at hK;obtain⟨hV,c_0,c_1,c_2⟩:=hS;refine ite_of rfl ?_)
       ·have hE:(Mem w w9 [(g6,35,pgC mm q),(w.heap.size+1,35,zPD),(w.heap.size,25,mdC a m)] []∧Below wr.heap.size wr w9):=(c_0 (hU.out 6 _ rfl rfl));obtain⟨u0,u1,u2,u3,u4⟩:=(hE.1.k (i:=0) rfl).fiveP;go_simp;exact hK.out _ _ ⟨hV.put 0,c_0,c_1,c_2⟩
       ·go_simp;exact hK.out _ _ ⟨hV.put 1,c_0,c_1,c_2⟩
       ·rw[hV.at 1 (hN.out 1 rfl)]at hK⊢;have hE:(Mem w w9 [(g6,35,pgC mm q),(w.heap.size+1,35,zPD),(w.heap.size,25,mdC a m)] []∧Below wr.heap.size wr w9):=(c_0 (Shut.no hC 6 5 rfl rfl (Shut.no hC 5 4 rfl rfl (hU.out 4 _ rfl rfl))));have u0:w9.cell? ⟨w.heap.size,1,none⟩=some (.slice (some ⟨gc,oc,none⟩) m.cons.length a.cons.2):=by rw[←HCA.out];exact(hE.1.k (i:=2) rfl).four.2.1
        go_simp;exact hK.out _ _ ⟨hV.put 2,c_0,c_1,c_2⟩
       ·go_simp;exact hK.out _ _ ⟨hV.put 3,c_0,c_1,c_2⟩
       ·rw[hV.at 2 (hN.out 2 rfl)]at hK⊢;rw[hV.at 3 (hN.out 3 rfl)]at hK⊢;go_simp;exact hK.out _ _ ⟨hV.put 4,c_0,c_1,c_2⟩
       ·rw[hV.at 4 (hN.out 4 rfl)]at hK⊢;have hE:(Mem w w9 [(g6,35,pgC mm q),(w.heap.size+1,35,zPD),(w.heap.size,25,mdC a m)] []∧Below wr.heap.size wr w9):=(c_0 (hU.out 6 _ rfl rfl));have u0:=E0 _ hE.2;have u1:=E1 _ hE.2;have u2:=E2 _ hE.2;have u3:=E3 _ hE.2;go_simp;exact hK.out _ _ ⟨hV.put 5,c_0,c_1,c_2⟩
       ·rw[hV.at 0 (hN.out 0 rfl)]at hK⊢;rw[hV.at 5 (hN.out 5 rfl)]at hK⊢;have hP:=c_0 hi.out;go_simp;go_at_call 34;refine(rrows_any (doms:=d) (HR.out.below hP.2) (HS.out.below hP.2) HMY.out (HQ1.out.trans HN.out.symm) (by rw[HQ1.out];exact g2) hq2 HBL.out).mono ?_;rintro e9 w10 ⟨m',rfl,hpg,q9,hna⟩;exact hK.out _ _ ⟨hV.eff 6,fun h=>no_t h,fun _ _=>⟨⟨hP.1.below q9,bT hP.2 q9⟩,m',rfl,hpg,hna.mono hP.2.size⟩,fun h=>no_f (Eq.trans (Eq.symm (hU.out 7 _ rfl rfl)) h)⟩
       ·have hP:=c_1 (hN.out 6 rfl) hi.out;obtain⟨⟨hP0,hQ0⟩,m',e6,hpg,hna⟩:=hP;have b9:=hP0.k (i:=0) rfl;simp only[e6]at hK⊢;refine wp_store_row _ _ _ rfl g6 _ rfl rfl _ _ b9 info_pgD rfl (by rw[←Array.all_toList];rfl) ?_;exact hK.out undef _ ⟨hV.eff 7,fun h=>no_f (Eq.trans (Eq.symm h) (hN.out 6 rfl)),fun _ h=>no_t h,fun _=>⟨m',hpg.over b9 (pgC_no mm q) (sRG _ _ _) (fun _ e=>Nat.lt_irrefl _ (HOFF.out m' hna _ e)),hna,hP0.row (by omega) (by simp;omega) rfl (b9.row _) (sRG _ _ _)⟩⟩
      intro L s w9 hall hS;obtain⟨hV,c_0,c_1,c_2⟩:=hS;have hPm:=c_2 (hall 7 (by decide));clear hall hV c_0 c_1 c_2;obtain⟨m',hpg,hna,hM9⟩:=hPm;have HR9:=ZH hpg;have HA9:=ZH (HOFF.out m' hna);have HM9:=ZH hM9;have HB9:=ZH ((rowsD_ab q cc).2.1 HBL.out);rw[←HF.out]at HR9 HM9 HB9;clear hpg hna hM9 m0 m1 m2 m3;go_wp2_with fail;go_roundg (m.cons.length-(t+1))
      case measure=>omega
      case rel=>exact⟨t+1,m',rfl,by omega,by simp,HR9.out,HA9.out,HB9.out,HM9.out⟩
     ·have d5:decide ((t:Int)<(m.cons.length:Int))=false:=dF (by omega);rw[List.take_of_length_le (by omega),HP.out]at HR HMR;clear HBL;obtain⟨b0,b1,b2,b3,b4⟩:=(HMR.out.k (i:=0) rfl).fiveP;go_wp2_with ((with_reducible refine st_ ?_);refine wP2 _ _ (HMR.out.k (i:=1) rfl) rfl rfl rfl rfl info_pgD rfl rfl ?_;intro w8 b8 g8);have HPG:=ZH (HR.out.over (HMR.out.k (i:=1) rfl) zPD_no g8 (fun _ e=>by have:=HAB.out _ e;omega));have HBE:=ZH (below_own HMR.out.bel g8 (Nat.le_succ _));obtain⟨f0,f1,f2,f3,f4⟩:=b8.fiveP;exact bodyPost_ret (v:= .tuple #[.agg (pgC mm P'),.int .i64 0]) (by simp[results,Tryz.results11,go_sem,f0,f1,f2,f3,f4]) rfl ⟨HBE.out,mm,rfl,HPG.out⟩
def Caps (ds:List Adr)(d:List (List (Int×Int))):Prop:=∀i,i<d.length→(d.getD i []).length≤(ds.getD i ad0).2
def DomsC (W:World)(A:Option Addr)(ds:List Adr)(d:List (List (Int×Int))):Prop:=DsAt W A ds d∧Caps ds d
def shortD (d:List (List (Int×Int))):Bool:=d.all fun l=>decide (l.length≤400)
def shortC (l:List Cn):Bool:=l.all fun c=>decide (c.x.length≤200)&&decide (c.a.length≤200)
def smallM (m:Md):Bool:=decide (m.doms.length≤200)&&(decide (m.cons.length≤200)&&(shortD m.doms&&shortC m.cons))
theorem shortD_step (l:List (Int×Int))(d:List (List (Int×Int))):shortD (l::d)=(decide (l.length≤400)&&shortD d):=rfl
theorem shortC_step (c:Cn)(l:List Cn):shortC (c::l)=((decide (c.x.length≤200)&&decide (c.a.length≤200))&&shortC l):=rfl
theorem msmall_sz {m:Md}(h:smallM m=true):MdSz m:=by
 unfold smallM at h;simp only[Bool.and_eq_true,decide_eq_true_eq]at h;obtain⟨h1,h2,h3,h4⟩:=h;refine⟨by omega,by omega,fun d hd=> ?_,fun c hc=> ?_⟩
 ·have:=List.all_eq_true.1 h3 d hd;rw[decide_eq_true_eq]at this;omega
 ·have:=List.all_eq_true.1 h4 c hc;rw[Bool.and_eq_true,decide_eq_true_eq,decide_eq_true_eq]at this;omega
theorem info_conS:(Tryz.prog.info? 69).map (·.size)=some 4:=by kernel_rfl
theorem msmall_any {w:World}{a:Mp}{m:Md}(h:MdAt w a m):Calls Tryz.prog 28 #[.agg (mdC a m)] w fun e w'=>e= .returned (.bool (smallM m))∧Below w.heap.size w w':=by
 have HA:=ZH h;obtain⟨R,hR⟩:∃R,smallM m=R:=⟨_,rfl⟩;have HE:Hid (R=smallM m):=hR.symm;rw[hR];unfold smallM at HE;have M:=(Mem.start w).new 25 (mdC a m);obtain⟨m0,m1,m2,m3⟩:=(M.k (i:=0) rfl).four;have HM:=ZH M;clear hR h M;go_enter Tryz.func28,Tryz.ntmps28;by_cases g1:m.doms.length≤200
 ·have d1:decide ((200:Int)<(m.doms.length:Int))=false:=dF (by omega);rw[dT g1,Bool.true_and]at HE;by_cases g2:m.cons.length≤200
  ·have d2:decide ((200:Int)<(m.cons.length:Int))=false:=dF (by omega);rw[dT g2,Bool.true_and]at HE;have HE0:Hid (R=(shortD (m.doms.drop 0)&&shortC m.cons)):=HE.out;clear HE;go_upto_block 0 with fail;go_wp2_with fail;go_loopg [20] m.doms.length (fun k pp wr=>∃i,k=m.doms.length-i∧i≤m.doms.length∧pp= .int .i64 (i:Nat)∧Hid (R=(shortD (m.doms.drop i)&&shortC m.cons))∧Hid (Mem w wr [(w.heap.size,25,mdC a m)] []))
   case atStart=>exact⟨0,rfl,Nat.zero_le _,rfl,HE0.out,HM.out⟩
   case round=>
    clear HE0 HM m0 m1 m2 m3 d1 d2;obtain⟨i,hk,hi,rfl,HL,HM⟩:=hrel;obtain⟨m0,m1,m2,m3⟩:=(HM.out.k (i:=0) rfl).four;by_cases hlt:i<m.doms.length
    ·have d1:decide ((i:Int)<(m.doms.length:Int))=true:=dT (by omega);obtain⟨ga,oa,hA2,ci⟩:=(HA.out.ds.below HM.out.bel).ap i hlt;replace ci:wr.cell? ⟨ga,oa+i,none⟩=some (.slice (a.ds.getD i ad0).1 (m.doms.getD i []).length (a.ds.getD i ad0).2):=ci;have HAA:=ZH hA2;rw[hA2]at m0⊢;have HC:Hid (R=(decide ((m.doms.getD i []).length≤400)&&(shortD (m.doms.drop (i+1))&&shortC m.cons))):=by
      show _=_;rw[HL.out,drop_at (z:=[]) hlt,shortD_step,Bool.and_assoc]
     clear HL hA2;generalize m.doms.getD i []=row at*;generalize (a.ds.getD i ad0).1=RA at*;generalize (a.ds.getD i ad0).2=cR at*;by_cases hrl:row.length≤400
     ·have d2:decide ((400:Int)<(row.length:Int))=false:=dF (by omega);have HC2:Hid (R=(shortD (m.doms.drop (i+1))&&shortC m.cons)):=HC.out.trans (by rw[dT hrl,Bool.true_and]);clear HC;go_wp2_with fail;rw[←HAA.out];go_roundg (m.doms.length-(i+1))
      case measure=>omega
      case rel=>exact⟨i+1,rfl,by omega,by simp,HC2.out,HM.out⟩
     ·have d2:decide ((400:Int)<(row.length:Int))=true:=dT (by omega);have HC2:Hid (R=false):=HC.out.trans (by rw[dF hrl];rfl);clear HC;rename Hid (R=false)=>HC;go_wp2_with fail;exact bodyPost_ret (v:= .bool false) (by simp[results,Tryz.results28,go_sem]) rfl ⟨by rw[HC.out],HM.out.bel⟩
    ·have d1:decide ((i:Int)<(m.doms.length:Int))=false:=dF (by omega);have HE:Hid (R=shortC (m.cons.drop 0)):=by
      show _=_;rw[HL.out,drop_none hlt];rfl
     clear HL;go_wp2_with fail;have HMI:=ZH HM.out;go_loopg [31] m.cons.length (fun k pp wr=>∃i,k=m.cons.length-i∧i≤m.cons.length∧pp= .int .i64 (i:Nat)∧Hid (R=shortC (m.cons.drop i))∧Hid (Mem w wr [(w.heap.size,25,mdC a m)] []))
     case atStart=>exact⟨0,rfl,Nat.zero_le _,rfl,HE.out,HMI.out⟩
     case round=>
      clear HE HM HMI m0 m1 m2 m3 d1;obtain⟨j,hk2,hj,rfl,HL,HM⟩:=hrel;by_cases hlt2:j<m.cons.length
      ·have d1:decide ((j:Int)<(m.cons.length:Int))=true:=dT (by omega);obtain⟨gc,oc,hca,e0,e1,e2,e3⟩:=(HA.out.cs.below HM.out.bel).at hlt2;have HCA:=ZH hca;rw[hca];have HC:Hid (R=((decide ((m.cons.getD j cn0).x.length≤200)&&decide ((m.cons.getD j cn0).a.length≤200))&&shortC (m.cons.drop (j+1)))):=by
        show _=_;rw[HL.out,drop_at (z:=cn0) hlt2,shortC_step]
       clear HL hca;generalize m.cons.getD j cn0=cc at*;generalize a.xs.getD j ad0=xa at*;generalize a.as_.getD j ad0=aa at*;obtain⟨ck,cx,ca,cc⟩:=cc;replace HC:Hid (R=((decide (cx.length≤200)&&decide (ca.length≤200))&&shortC (m.cons.drop (j+1)))):=HC;have M2:=HM.out.new 69 #[.int .i64 0,.slice none 0 0,.slice none 0 0,.int .i64 0];have hgw:=(HM.out.k (i:=0) rfl).lt;go_upto_region 12 with ((with_reducible refine st_ ?_);refine wP2 _ _ (M2.k (i:=0) rfl) rfl rfl rfl rfl info_conS rfl rfl ?_;intro w5 b5 g5';replace M2:=M2.row (by omega) (by simp;omega) rfl b5 g5');obtain⟨f1,f2,f3,f4⟩:=(M2.k (i:=0) rfl).four;have HM2:=ZH (M2.sub (Ks':=[(w.heap.size,25,mdC a m)]) (Rs':=[]) (by simp) (by simp));clear b5 g5' e0 e1 e2 e3 M2 HM;by_cases h1:cx.length≤200
       ·have d2:decide ((200:Int)<(cx.length:Int))=false:=dF (by omega);by_cases h2:ca.length≤200
        ·have d3:decide ((200:Int)<(ca.length:Int))=false:=dF (by omega);have HC2:Hid (R=shortC (m.cons.drop (j+1))):=HC.out.trans (by rw[dT h1,dT h2];rfl);clear HC;go_wp2_with fail;rw[←HCA.out];go_roundg (m.cons.length-(j+1))
         case measure=>omega
         case rel=>exact⟨j+1,rfl,by omega,by simp,HC2.out,HM2.out⟩
        ·have d3:decide ((200:Int)<(ca.length:Int))=true:=dT (by omega);have HC2:Hid (R=false):=HC.out.trans (by rw[dF h2,Bool.and_false];rfl);clear HC;rename Hid (R=false)=>HC;rename Hid (Mem w w5 _ _)=>HM;go_wp2_with fail;exact bodyPost_ret (v:= .bool false) (by simp[results,Tryz.results28,go_sem]) rfl ⟨by rw[HC.out],HM.out.bel⟩
       ·have d2:decide ((200:Int)<(cx.length:Int))=true:=dT (by omega);have HC2:Hid (R=false):=HC.out.trans (by rw[dF h1];rfl);clear HC;rename Hid (R=false)=>HC;rename Hid (Mem w w5 _ _)=>HM;go_wp2_with fail;exact bodyPost_ret (v:= .bool false) (by simp[results,Tryz.results28,go_sem]) rfl ⟨by rw[HC.out],HM.out.bel⟩
      ·have d1:decide ((j:Int)<(m.cons.length:Int))=false:=dF (by omega);have HC:Hid (R=true):=by
        show _=_;rw[HL.out,drop_none hlt2];rfl
       clear HL;go_wp2_with fail;exact bodyPost_ret (v:= .bool true) (by simp[results,Tryz.results28,go_sem]) rfl ⟨by rw[HC.out],HM.out.bel⟩
  ·have d2:decide ((200:Int)<(m.cons.length:Int))=true:=dT (by omega);rw[dF g2]at HE;have HC:Hid (R=false):=HE.out;clear HE;go_wp2_with fail;exact bodyPost_ret (v:= .bool false) (by simp[results,Tryz.results28,go_sem]) rfl ⟨by rw[HC.out],HM.out.bel⟩
 ·have d1:decide ((200:Int)<(m.doms.length:Int))=true:=dT (by omega);rw[dF g1]at HE;have HC:Hid (R=false):=HE.out;clear HE;go_wp2_with fail;exact bodyPost_ret (v:= .bool false) (by simp[results,Tryz.results28,go_sem]) rfl ⟨by rw[HC.out],HM.out.bel⟩
theorem mfits_any {w:World}{a:Mp}{m:Md}{D:Option Addr}{Dc:Nat}{ds:List Adr}{d:List (List (Int×Int))}(h:MdAt w a m)(hd:DsAt w D ds d):Calls Tryz.prog 9 #[.agg (mdC a m),.slice D d.length Dc] w fun e w'=>e= .returned (.bool (smallM m&&smallM {m with doms:=d}))∧Below w.heap.size w w':=by
 have HS1:=ZH fun(w':World)(q:Below w.heap.size w w')=>msmall_any (h.below q);have HS2:Hid (∀w',Below w.heap.size w w'→Calls Tryz.prog 28 #[.agg #[.slice D d.length Dc,.slice a.cons.1 m.cons.length a.cons.2,iw m.ask,iw m.goal]] w' fun e w2=>e= .returned (.bool (smallM {m with doms:=d}))∧Below w'.heap.size w' w2):=fun w' q=>
  msmall_any (a:={a with doms:=(D,Dc),ds:=ds}) (m:={m with doms:=d}) ⟨hd.below q,h.cs.below q⟩
 have M:=(Mem.start w).new 25 (mdC a m);obtain⟨m0,m1,m2,m3⟩:=(M.k (i:=0) rfl).four;obtain⟨R2,hR2⟩:∃R,smallM {m with doms:=d}=R:=⟨_,rfl⟩;rw[hR2]at HS2⊢;obtain⟨R1,hR1⟩:∃R,smallM m=R:=⟨_,rfl⟩;rw[hR1]at HS1⊢;have HM:=ZH M;clear h hd hR1 hR2 M;go_enter Tryz.func9,Tryz.ntmps9;go_upto_region 3 with fail;have M2:=HM.out.newAt (g:=w.heap.size+1) (by simp) 25 #[.slice D d.length Dc,.slice a.cons.1 m.cons.length a.cons.2,iw m.ask,iw m.goal];clear m0 m1 m2 m3;obtain⟨m0,m1,m2,m3⟩:=(M2.k (i:=1) rfl).four;go_wp2_with fail;refine(HS1.out _ M2.bel).mono ?_;rintro e w2 ⟨rfl,q2⟩;replace M2:=M2.below q2;clear q2 m0 m1 m2 m3;cases R1 with
 |false=>
  have HM2:=ZH M2;go_wp2_with fail;exact bodyPost_ret (v:= .bool false) (by simp[results,Tryz.results9,go_sem]) rfl ⟨rfl,HM2.out.bel⟩
 |true=>
  obtain⟨m0,m1,m2,m3⟩:=(M2.k (i:=0) rfl).four;go_wp2_with fail;refine(HS2.out _ M2.bel).mono ?_;rintro e w3 ⟨rfl,q3⟩;have HM3:=ZH (M2.below q3);clear q3 m0 m1 m2 m3 M2;go_wp2_with fail;exact bodyPost_ret (v:= .bool R2) (by simp[results,Tryz.results9,go_sem]) rfl ⟨by rw[Bool.true_and],HM3.out.bel⟩
theorem nums_any {w:World}{A B:Option Addr}{c d n:Nat}{l:List Int}(h:IRow w A l)(k:IRow w B l)(hn:l.length=n)(hs:n≤1000000):Calls Tryz.prog 12 #[.slice A n c,.slice B n d] w fun e w'=>e= .returned (.bool true)∧Below w.heap.size w w':=by
 have HA:=ZH h;have HB:=ZH k;have HN:=ZH hn;have d0:((n:Int) !=(n:Int))=false:=by simp
 clear h k hn;go_enter Tryz.func12,Tryz.ntmps12;go_wp2_with fail;go_loopg [13] n (fun k pp wr=>∃i,k=n-i∧i≤n∧pp= .int .i64 (i:Nat)∧Hid (Below w.heap.size w wr))
 case atStart=>exact⟨0,rfl,Nat.zero_le _,rfl,Below.refl _ _⟩
 case round=>
  obtain⟨i,hk,hi,rfl,HQ⟩:=hrel;by_cases hlt:i<n
  ·have d1:decide ((i:Int)<(n:Int))=true:=dT (by omega);obtain⟨ga,oa,hA,ca⟩:=(HA.out.below HQ.out) i (by rw[HN.out];exact hlt);obtain⟨gb,ob,hB,cb⟩:=(HB.out.below HQ.out) i (by rw[HN.out];exact hlt);replace ca:wr.cell? ⟨ga,oa+i,none⟩=some (.int .i64 (l.getD i 0)):=ca;replace cb:wr.cell? ⟨gb,ob+i,none⟩=some (.int .i64 (l.getD i 0)):=cb;have HXA:=ZH hA;have HXB:=ZH hB;rw[hA,hB];generalize l.getD i 0=z at*;have d2:(z !=z)=false:=by simp
   clear hA hB;go_upto_region 6 with fail;go_quiet (fail);have HQN:=ZH (below_dr HQ.out nq);clear ca cb;go_wp2_with fail;rw[←HXA.out,←HXB.out];go_roundg (n-(i+1))
   case measure=>omega
   case rel=>exact⟨i+1,rfl,by omega,by simp,HQN.out⟩
  ·have d1:decide ((i:Int)<(n:Int))=false:=dF (by omega);go_wp2_with fail;exact bodyPost_ret (v:= .bool true) (by simp[results,Tryz.results12,go_sem]) rfl ⟨rfl,HQ.out⟩
theorem ranges_any {w:World}{A B:Option Addr}{c d n:Nat}{l:List (Int×Int)}(h:RRow w A l)(k:RRow w B l)(hn:l.length=n)(hs:n≤1000000):Calls Tryz.prog 27 #[.slice A n c,.slice B n d] w fun e w'=>e= .returned (.bool true)∧Below w.heap.size w w':=by
 have HA:=ZH h;have HB:=ZH k;have HN:=ZH hn;have d0:((n:Int) !=(n:Int))=false:=by simp
 clear h k hn;go_enter Tryz.func27,Tryz.ntmps27;go_wp2_with fail;go_loopg [13] n (fun k pp wr=>∃i,k=n-i∧i≤n∧pp= .int .i64 (i:Nat)∧Hid (Below w.heap.size w wr))
 case atStart=>exact⟨0,rfl,Nat.zero_le _,rfl,Below.refl _ _⟩
 case round=>
  obtain⟨i,hk,hi,rfl,HQ⟩:=hrel;by_cases hlt:i<n
  ·have d1:decide ((i:Int)<(n:Int))=true:=dT (by omega);obtain⟨ga,oa,hA,ca,ca2⟩:=(HA.out.below HQ.out).at (j:=i) (by rw[HN.out];exact hlt);obtain⟨gb,ob,hB,cb,cb2⟩:=(HB.out.below HQ.out).at (j:=i) (by rw[HN.out];exact hlt);have HXA:=ZH hA;have HXB:=ZH hB;rw[hA,hB];generalize (l.getD i (0,0)).1=z at*;generalize (l.getD i (0,0)).2=y at*;have d2:(z !=z)=false:=by simp
   have d3:(y !=y)=false:=by simp
   clear hA hB;go_upto_region 6 with fail;go_quiet (fail);have HQN:=ZH (below_dr HQ.out nq);clear ca cb ca2 cb2;go_wp2_with fail;rw[←HXA.out,←HXB.out];go_roundg (n-(i+1))
   case measure=>omega
   case rel=>exact⟨i+1,rfl,by omega,by simp,HQN.out⟩
  ·have d1:decide ((i:Int)<(n:Int))=false:=dF (by omega);go_wp2_with fail;exact bodyPost_ret (v:= .bool true) (by simp[results,Tryz.results27,go_sem]) rfl ⟨rfl,HQ.out⟩
open Go.ChangeShapes Go.WideShapes Go.ChangeAt Go.RowKit Go.Joins Go.Deep Num
theorem trod_struct4 {H:Type}{enc:TypeId×Value→H}{P:Program}{w:World}{base:Nat}{spare:Nat→Bool}{held:Bool}{t:TypeId}{f0 f1 f2 f3:Field}{fuel:Nat}{cs:List Value}{x:DataW H×List MemPlace}(ht:P.underlying t=some (.struct #[f0,f1,f2,f3]))(h:DataW.trod enc P w base spare held fuel t cs=some x):∃y0 y1 y2 y3 n,DataW.trod enc P w base spare held n f0.type ((cs.drop f0.offset).take (P.cellsOf f0.type))=some y0∧DataW.trod enc P w base spare held n f1.type ((cs.drop f1.offset).take (P.cellsOf f1.type))=some y1∧DataW.trod enc P w base spare held n f2.type ((cs.drop f2.offset).take (P.cellsOf f2.type))=some y2∧DataW.trod enc P w base spare held n f3.type ((cs.drop f3.offset).take (P.cellsOf f3.type))=some y3:=by
 obtain⟨xs,n,_,rfl,hl,hlen,hf⟩:=DataW.trod_struct ht h;match xs,hlen with
 |[y0,y1,y2,y3],_=>exact⟨y0,y1,y2,y3,n,by simpa using hf 0 f0 rfl,by simpa using hf 1 f1 rfl,by simpa using hf 2 f2 rfl,by simpa using hf 3 f3 rfl⟩
theorem open_rowC {H:Type}{enc:TypeId×Value→H}{W:World}{α:Type}(Q:List Value→α→Prop)(d:α){t e:TypeId}{sz:Nat}(ht:Tryz.prog.underlying t=some (.slice e))(hsz:Tryz.prog.cellsOf e=sz)(hpos:0<sz)(hel:∀(n:Nat)(cs:List Value)(y:DataW H×List MemPlace),DataW.trod enc Tryz.prog W 0 (fun _=>true) true n e cs=some y→cs.length=sz→∃a:α,Q cs a){fuel:Nat}{cs:List Value}{x:DataW H×List MemPlace}(h:DataW.trod enc Tryz.prog W 0 (fun _=>true) true fuel t cs=some x):∃(A:Option Addr)(l:List α)(c:Nat),cs=[.slice A l.length c]∧l.length≤c∧∀j,j<l.length→∃g o,A=some ⟨g,o,none⟩∧∃cs',(∀k,k<sz→W.cell? ⟨g,o+j*sz+k,none⟩=cs'[k]?)∧cs'.length=sz∧Q cs' (l.getD j d):=by
 obtain⟨A,l,c,h1,h2⟩:=open_row Q d ht hsz hpos hel h;refine⟨A,l,c,h1,?_,h2⟩;rcases open_slice ht h with ⟨hcs,_⟩|⟨a,len,cap,m,n,D,Pl,hcs,_,hl,_,_,_,_⟩
 ·rw[h1]at hcs;simp only[List.cons.injEq,Value.slice.injEq,and_true]at hcs;omega
 ·rw[h1]at hcs;simp only[List.cons.injEq,Value.slice.injEq,and_true]at hcs;omega
theorem open_is {H:Type}{enc:TypeId×Value→H}{W:World}{fuel:Nat}{cs:List Value}{x:DataW H×List MemPlace}(h:DataW.trod enc Tryz.prog W 0 (fun _=>true) true fuel 67 cs=some x):∃(A:Option Addr)(l:List Int)(c:Nat),cs=[.slice A l.length c]∧IRow W A l:=by
 obtain⟨A,l,c,h1,h2⟩:=open_row (α:=Int) IsInt 0 Tryz.underlying67 (sz:=1) (by kernel_rfl) (by decide) (fun n cs y ht hl=>by
  obtain⟨i0,q0,_,w0⟩:=DataW.trod_int Tryz.underlying3 ht;simp only[Lit.wf,Bool.and_eq_true,decide_eq_true_eq]at w0;exact⟨i0,q0,w0.1,w0.2⟩) h
 refine⟨A,l,c,h1,fun j hj=> ?_⟩;obtain⟨g,o,hA,cs',h3,h4,h5,_⟩:=h2 j hj;refine⟨g,o,hA,?_⟩;have:=h3 0 (by decide);rw[h5]at this;rw[Nat.mul_one,Nat.add_zero]at this;exact this
def IsRg (cs:List Value)(r:Int×Int):Prop:=cs=[.int .i64 r.1,.int .i64 r.2]
theorem open_rg {H:Type}{enc:TypeId×Value→H}{W:World}(n:Nat)(cs:List Value)(y:DataW H×List MemPlace)(h:DataW.trod enc Tryz.prog W 0 (fun _=>true) true n 65 cs=some y)(hl:cs.length=2):∃r:Int×Int,IsRg cs r:=by
 match cs,hl with
 |[c0,c1],_=>
  obtain⟨y0,y1,k,_,_,h0,h1⟩:=trod_struct2 Tryz.underlying65 h;have e0:Tryz.prog.cellsOf 2=1:=by kernel_rfl
  simp only[e0]at h0 h1;replace h0:DataW.trod enc Tryz.prog W 0 (fun _=>true) true k 2 [c0]=some y0:=h0;replace h1:DataW.trod enc Tryz.prog W 0 (fun _=>true) true k 2 [c1]=some y1:=h1;obtain⟨i0,q0,_,_⟩:=DataW.trod_int Tryz.underlying2 h0;obtain⟨i1,q1,_,_⟩:=DataW.trod_int Tryz.underlying2 h1;obtain rfl:c0= .int .i64 i0:=by simpa using q0
  obtain rfl:c1= .int .i64 i1:=by simpa using q1
  exact⟨(i0,i1),rfl⟩
structure Dm where
 l:List (Int×Int)
 A:Option Addr
 c:Nat
def dm0:Dm:=⟨[],none,0⟩
def IsDm (W:World)(cs:List Value)(x:Dm):Prop:=cs=[.slice x.A x.l.length x.c]∧RRow W x.A x.l∧x.l.length≤x.c
theorem open_dm {H:Type}{enc:TypeId×Value→H}{W:World}(n:Nat)(cs:List Value)(y:DataW H×List MemPlace)(h:DataW.trod enc Tryz.prog W 0 (fun _=>true) true n 66 cs=some y)(hl:cs.length=1):∃x:Dm,IsDm W cs x:=by
 obtain⟨A,l,c,h1,h2,h3⟩:=open_rowC IsRg (0,0) Tryz.underlying66 (sz:=2) (by kernel_rfl) (by decide) open_rg h;refine⟨⟨l,A,c⟩,h1,fun i hi=> ?_,h2⟩;obtain⟨g,o,hA,cs',h4,h5,h6⟩:=h3 (i/2) (by show i/2<l.length;replace hi:i<l.length*2:=hi;omega);refine⟨g,o,hA,?_⟩;have h7:=h4 (i%2) (by omega);have e:o+i/2*2+i%2=o+i:=by omega
 rw[e,h6]at h7;refine h7.trans ?_;show _=some (if i%2=0 then iw (l.getD (i/2) (0,0)).1 else iw (l.getD (i/2) (0,0)).2);rcases Nat.mod_two_eq_zero_or_one i with e|e<;>rw[e]<;>rfl
theorem doms_of {W:World}{A:Option Addr}{l:List Dm}(h:∀j,j<l.length→∃g o,A=some ⟨g,o,none⟩∧∃cs',(∀k,k<1→W.cell? ⟨g,o+j*1+k,none⟩=cs'[k]?)∧cs'.length=1∧IsDm W cs' (l.getD j dm0)):DomsC W A (l.map fun x=>(x.A,x.c)) (l.map (·.l)):=by
 have hrow:∀i,i<l.length→(l.map (·.l)).getD i []=(l.getD i dm0).l∧(l.map fun x=>(x.A,x.c)).getD i ad0=((l.getD i dm0).A,(l.getD i dm0).c):=fun i hi=>by
  constructor
  ·rw[gE,List.getElem?_map,gE,gG hi];rfl
  ·rw[gE,List.getElem?_map,gE,gG hi];rfl
 have hlen:(l.map (·.l)).length=l.length:=List.length_map ..;refine⟨⟨fun i hi=> ?_,fun i hi=> ?_⟩,fun i hi=> ?_⟩
 ·rw[hlen]at hi;obtain⟨g,o,hA,cs',h4,_,h5,_⟩:=h i hi;refine⟨g,o,hA,?_⟩;have h7:=h4 0 (by decide);rw[h5,Nat.mul_one,Nat.add_zero]at h7;show _=some (Value.slice ((l.map fun x=>(x.A,x.c)).getD i ad0).1 ((l.map (·.l)).getD i []).length ((l.map fun x=>(x.A,x.c)).getD i ad0).2);rw[h7,(hrow i hi).1,(hrow i hi).2];rfl
 ·rw[hlen]at hi;obtain⟨g,o,hA,cs',_,_,_,h5,_⟩:=h i hi;rw[(hrow i hi).1,(hrow i hi).2];exact h5
 ·rw[hlen]at hi;obtain⟨g,o,hA,cs',_,_,_,_,h5⟩:=h i hi;rw[(hrow i hi).1,(hrow i hi).2];exact h5
theorem open_dms {H:Type}{enc:TypeId×Value→H}{W:World}{fuel:Nat}{cs:List Value}{x:DataW H×List MemPlace}(h:DataW.trod enc Tryz.prog W 0 (fun _=>true) true fuel 22 cs=some x):∃(A:Option Addr)(ds:List Adr)(d:List (List (Int×Int)))(c:Nat),cs=[.slice A d.length c]∧DomsC W A ds d:=by
 obtain⟨A,l,c,h1,h2⟩:=open_row (IsDm W) dm0 Tryz.underlying22 (sz:=1) (by kernel_rfl) (by decide) open_dm h;exact⟨A,_,_,c,by rw[List.length_map];exact h1,doms_of h2⟩
theorem open_doms {H:Type}{enc:TypeId×Value→H}{W:World}{base:Nat}{v:Value}{d:DataW H}{p:List MemPlace}(hv:Value.okWide Tryz.prog W .any base 22 v)(h:DataW.Trod enc Tryz.prog W 0 (fun _=>true) true 22 v d p):∃(A:Option Addr)(ds:List Adr)(d:List (List (Int×Int)))(c:Nat),v= .slice A d.length c∧DomsC W A ds d:=by
 obtain⟨A0,len,cap,rfl⟩:=okWide_slice Tryz.underlying22 hv;obtain⟨fuel,hf⟩:=h;obtain⟨A,ds,d,c,h1,h2⟩:=open_dms hf;exact⟨A,ds,d,c,by simpa[Value.cells]using h1,h2⟩
structure Cx where
 c:Cn
 x:Adr
 a:Adr
def cx0:Cx:=⟨cn0,ad0,ad0⟩
def IsCx (W:World)(cs:List Value)(y:Cx):Prop:=cs=[iw y.c.k,.slice y.x.1 y.c.x.length y.x.2,.slice y.a.1 y.c.a.length y.a.2,iw y.c.c]∧IRow W y.x.1 y.c.x∧IRow W y.a.1 y.c.a
theorem open_cx {H:Type}{enc:TypeId×Value→H}{W:World}(n:Nat)(cs:List Value)(y:DataW H×List MemPlace)(h:DataW.trod enc Tryz.prog W 0 (fun _=>true) true n 69 cs=some y)(hl:cs.length=4):∃x:Cx,IsCx W cs x:=by
 match cs,hl with
 |[c0,c1,c2,c3],_=>
  obtain⟨y0,y1,y2,y3,k,h0,h1,h2,h3⟩:=trod_struct4 Tryz.underlying69 h;have e0:Tryz.prog.cellsOf 3=1:=by kernel_rfl
  have e1:Tryz.prog.cellsOf 67=1:=by kernel_rfl
  have e2:Tryz.prog.cellsOf 28=1:=by kernel_rfl
  have e3:Tryz.prog.cellsOf 2=1:=by kernel_rfl
  simp only[e0,e1,e2,e3]at h0 h1 h2 h3;replace h0:DataW.trod enc Tryz.prog W 0 (fun _=>true) true k 3 [c0]=some y0:=h0;replace h1:DataW.trod enc Tryz.prog W 0 (fun _=>true) true k 67 [c1]=some y1:=h1;replace h2:DataW.trod enc Tryz.prog W 0 (fun _=>true) true k 28 [c2]=some y2:=h2;replace h3:DataW.trod enc Tryz.prog W 0 (fun _=>true) true k 2 [c3]=some y3:=h3;obtain⟨i0,q0,_,_⟩:=DataW.trod_int Tryz.underlying3 h0;obtain⟨i3,q3,_,_⟩:=DataW.trod_int Tryz.underlying2 h3;obtain⟨A1,l1,d1,q1,r1⟩:=open_is h1;obtain⟨A2,l2,d2,q2,r2,_⟩:=open_i64s h2;obtain rfl:c0= .int .i64 i0:=by simpa using q0
  obtain rfl:c1= .slice A1 l1.length d1:=by simpa using q1
  obtain rfl:c2= .slice A2 l2.length d2:=by simpa using q2
  obtain rfl:c3= .int .i64 i3:=by simpa using q3
  exact⟨⟨⟨i0,l1,l2,i3⟩,(A1,d1),(A2,d2)⟩,rfl,r1,r2⟩
theorem cons_of {W:World}{A:Option Addr}{l:List Cx}(h:∀j,j<l.length→∃g o,A=some ⟨g,o,none⟩∧∃cs',(∀k,k<4→W.cell? ⟨g,o+j*4+k,none⟩=cs'[k]?)∧cs'.length=4∧IsCx W cs' (l.getD j cx0)):CsAt W A (l.map (·.x)) (l.map (·.a)) (l.map (·.c)):=by
 have hrow:∀i,i<l.length→(l.map (·.c)).getD i cn0=(l.getD i cx0).c∧(l.map (·.x)).getD i ad0=(l.getD i cx0).x∧(l.map (·.a)).getD i ad0=(l.getD i cx0).a:=fun i hi=>by
  refine⟨?_,?_,?_⟩
  ·rw[gE,List.getElem?_map,gE,gG hi];rfl
  ·rw[gE,List.getElem?_map,gE,gG hi];rfl
  ·rw[gE,List.getElem?_map,gE,gG hi];rfl
 have hlen:(l.map (·.c)).length=l.length:=List.length_map ..;refine⟨fun i hi=> ?_,fun i hi=> ?_⟩
 ·rw[hlen]at hi;have hi4:i/4<l.length:=by omega
  obtain⟨g,o,hA,cs',h4,_,h5,_⟩:=h (i/4) hi4;refine⟨g,o,hA,?_⟩;have h7:=h4 (i%4) (by omega);have e:o+i/4*4+i%4=o+i:=by omega
  rw[e,h5]at h7;show _=some (cnCell ((l.map (·.x)).getD (i/4) ad0) ((l.map (·.a)).getD (i/4) ad0) ((l.map (·.c)).getD (i/4) cn0) (i%4));rw[h7,(hrow _ hi4).1,(hrow _ hi4).2.1,(hrow _ hi4).2.2];have hm:i%4=0∨i%4=1∨i%4=2∨i%4=3:=by omega
  rcases hm with e|e|e|e<;>rw[e]<;>rfl
 ·rw[hlen]at hi;obtain⟨g,o,hA,cs',_,_,_,h5,h6⟩:=h i hi;rw[(hrow i hi).1,(hrow i hi).2.1,(hrow i hi).2.2];exact⟨h5,h6⟩
theorem open_model {H:Type}{enc:TypeId×Value→H}{W:World}{base:Nat}{v:Value}{d:DataW H}{p:List MemPlace}(hv:Value.okWide Tryz.prog W .any base 25 v)(h:DataW.Trod enc Tryz.prog W 0 (fun _=>true) true 25 v d p):∃(a:Mp)(m:Md),v= .agg (mdC a m)∧MdAt W a m∧∀i,i<m.doms.length→(m.doms.getD i []).length≤(a.ds.getD i ad0).2:=by
 obtain⟨cs,rfl,hsz⟩:=okWide_struct Tryz.underlying25 hv;have hs4:cs.size=4:=hsz.trans (show Tryz.prog.cellsOf 25=4 by kernel_rfl);obtain⟨c0,c1,c2,c3,rfl⟩:∃c0 c1 c2 c3,cs= #[c0,c1,c2,c3]:=by
  obtain⟨l⟩:=cs;match l,hs4 with
  |[c0,c1,c2,c3],_=>exact⟨c0,c1,c2,c3,rfl⟩
 obtain⟨fuel,hf⟩:=h;obtain⟨y0,y1,y2,y3,k,h0,h1,h2,h3⟩:=trod_struct4 Tryz.underlying25 hf;have e0:Tryz.prog.cellsOf 22=1:=by kernel_rfl
 have e1:Tryz.prog.cellsOf 23=1:=by kernel_rfl
 have e2:Tryz.prog.cellsOf 3=1:=by kernel_rfl
 simp only[e0,e1,e2]at h0 h1 h2 h3;replace h0:DataW.trod enc Tryz.prog W 0 (fun _=>true) true k 22 [c0]=some y0:=h0;replace h1:DataW.trod enc Tryz.prog W 0 (fun _=>true) true k 23 [c1]=some y1:=h1;replace h2:DataW.trod enc Tryz.prog W 0 (fun _=>true) true k 3 [c2]=some y2:=h2;replace h3:DataW.trod enc Tryz.prog W 0 (fun _=>true) true k 3 [c3]=some y3:=h3;obtain⟨A0,ds,dd,d0,q0,r0⟩:=open_dms h0;obtain⟨A1,l1,d1,q1,r1⟩:=open_row (IsCx W) cx0 Tryz.underlying23 (sz:=4) (by kernel_rfl) (by decide) open_cx h1;obtain⟨i2,q2,_,_⟩:=DataW.trod_int Tryz.underlying3 h2;obtain⟨i3,q3,_,_⟩:=DataW.trod_int Tryz.underlying3 h3;obtain rfl:c0= .slice A0 dd.length d0:=by simpa using q0
 obtain rfl:c1= .slice A1 l1.length d1:=by simpa using q1
 obtain rfl:c2= .int .i64 i2:=by simpa using q2
 obtain rfl:c3= .int .i64 i3:=by simpa using q3
 refine⟨⟨(A0,d0),ds,(A1,d1),l1.map (·.x),l1.map (·.a)⟩,⟨dd,l1.map (·.c),i2,i3⟩,?_,⟨r0.1,cons_of r1⟩,r0.2⟩;show _=Value.agg #[.slice A0 dd.length d0,.slice A1 (l1.map (·.c)).length d1,iw i2,iw i3];rw[List.length_map]
end Go.Proofs.YtecfcjdgmpopjaaGreat

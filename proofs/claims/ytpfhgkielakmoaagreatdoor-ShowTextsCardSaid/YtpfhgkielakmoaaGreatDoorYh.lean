/-
  Joined texts: Yg, Yh.
-/
import Derived.Test.YtpfhgkielakmoaaGreatDoorYf
set_option maxHeartbeats 20000000
set_option maxRecDepth 100000
set_option linter.unusedSimpArgs false
set_option linter.unusedVariables false
namespace Go.Proofs.YtpfhgkielakmoaaGreatDoor
open Go.RowKit Num
def rgO:Nat→List (Int×Int)→Option (List Tok)→Option (List Tok)×List (Int×Int)
 |0,_,_=>(none,[])
 |_+1,_,none=>(none,[])
 |k+1,acc,some l=>if isO [125] (intO (some l)).1 then ((intO (some l)).1.map List.tail,acc++[((intO (some l)).2,(intO (some l)).2)]) else rgO k (acc++[((intO (some l)).2,(intO (some l)).2)]) (takeO [44] (intO (some l)).1)
theorem rgO_none (k:Nat) (acc:List (Int×Int)):rgO k acc none=(none,[]):=by cases k<;>rfl
theorem rgO_some {k:Nat} {acc:List (Int×Int)} {l:List Tok} {o1:Option (List Tok)} {m:Int} (h:intO (some l)=(o1,m)):rgO (k+1) acc (some l)=if isO [125] o1 then (o1.map List.tail,acc++[(m,m)]) else rgO k (acc++[(m,m)]) (takeO [44] o1):=by
 show (if isO [125] (intO (some l)).1 then _ else _)=_;rw[h]
def domO (o:Option (List Tok)):Option (List Tok)×Bool×List (Int×Int):=
 if isO wBool o then (o.map List.tail,true,[])
 else if isO [123] o then ((rgO 256 [] (o.map List.tail)).1,false,(rgO 256 [] (o.map List.tail)).2)
 else ((intO (takeO [46,46] (intO o).1)).1,false,[((intO o).2,(intO (takeO [46,46] (intO o).1)).2)])
def DmPost (A:Option Addr) (c:Nat) (L:List Tok) (n:Int) (w:World) (r:Option (List Tok)×Bool×List (Int×Int)) (e:Ending) (w':World):Prop:=
 (∃v' S,e= .returned (.tuple #[v',.bool r.2.1,S])∧DS A c L n v' r.1∧layR.row.P (since w.heap.size w') w' S r.2.2)∧Below w.heap.size w w'
theorem rng_new {F:Nat→Prop} {w:World} {m:Int}:∀k,k<layR.sz→∃u,(#[Value.int .i64 m,.int .i64 m]:Array Value).toList[k]? =some u∧(layR.C k).P F w u (m,m):=fun k hk=>by
 have hk2:k<2:=hk;match k,hk2 with
 |0,_=>exact ⟨_,rfl,rfl⟩
 |1,_=>exact ⟨_,rfl,rfl⟩
theorem rng_one {F:Nat→Prop} {w:World} {g:Nat} {lo hi:Int} (hF:F g) (h:Blk w g 44 #[.int .i64 lo,.int .i64 hi]):layR.row.P F w (.slice (some ⟨g,0,none⟩) 1 1) [(lo,hi)]:=by
 refine ⟨_,_,rfl,Nat.le_refl _,by unfold maxLen;omega,fun _=>⟨g,0,rfl,hF,h.lt,fun j hj k hk=> ?_⟩⟩;have hj1:j=0:=by rw[List.length_singleton]at hj;omega
 subst hj1;have hk2:k<2:=hk;match k,hk2 with
 |0,_=>exact ⟨_,h.cell 0,rfl⟩
 |1,_=>exact ⟨_,h.cell 1,rfl⟩
theorem d_dom {A:Option Addr} {c:Nat} {L:List Tok} {n:Int} {v:Value} {o:Option (List Tok)} {w:World} (hR:RdT w A c L) (h:DS A c L n v o) (hL:L.length≤10000):Calls Tryz.prog 150 #[v] w (DmPost A c L n w (domO o)):=by
 have h':=h;obtain ⟨i,at_,er,rfl,hi,ho⟩:=h;have M0:Mem w ((w.alloc (.cells #[.slice A L.length c,.int .i64 (i:Nat),.int .i64 n,.int .i64 at_,.int .i64 er] 133)).alloc (.cells #[.slice none 0 0,.int .i64 0,.int .i64 0,.int .i64 0,.int .i64 0] 133)) [(w.heap.size+1,133,zS5),(w.heap.size,133,#[.slice A L.length c,.int .i64 (i:Nat),.int .i64 n,.int .i64 at_,.int .i64 er])] []:=((Mem.start w).new 133 _).newAt (by simp) 133 _;have hR0:=hR.below M0.bel (Nat.le_refl _);have HI:=Lib.hid (d_is hR0 h' wBool);have HX:=Lib.hid (show domO o=if isO wBool o then (o.map List.tail,true,[]) else if isO [123] o then ((rgO 256 [] (o.map List.tail)).1,false,(rgO 256 [] (o.map List.tail)).2) else ((intO (takeO [46,46] (intO o).1)).1,false,[((intO o).2,(intO (takeO [46,46] (intO o).1)).2)]) from rfl);have HR:=Lib.hid hR;have HL:=Lib.hid hL;cases hb:isO wBool o with
 |true=>
  obtain ⟨t,r,rfl,ht⟩:=isO_some (by decide) hb;have HN:=Lib.hid (fun (w':World)=>d_step h' hL w');rw[hb]at HI HX;clear hR hR0 h' hb ho hL;go_enter Tryz.func150,Tryz.ntmps150;go_wp2_with fail;refine HI.out.mono ?_;rintro e w1 ⟨rfl,q1⟩;have M1:=M0.below q1;obtain ⟨m1,m2,m3,m4,m5⟩:=(M1.k (i:=1) rfl).five;go_wp2_with fail;refine (HN.out w1).mono ?_;rintro e w2 ⟨⟨v',rfl,hv⟩,q2⟩;obtain ⟨i',at',er',rfl⟩:=hv.form;have HV:=Lib.hid hv;clear hv;have M:=M1.below q2;clear M0 M1 HI m1 m2 m3 m4 m5 HN;go_wp2_with ((with_reducible refine st_ ?_);refine wp_put2 _ _ (M.k (i:=0) rfl) rfl rfl rfl rfl info_st rfl rfl ?_;intro w4 b4 g4;replace M:=M.rowAt (i:=0) rfl (by omega) (by simp<;>omega) rfl b4 g4;obtain ⟨f1,f2,f3,f4,f5⟩:=(M.k (i:=0) rfl).five);refine bodyPost_ret (v:= .tuple #[.agg #[.slice A L.length c,.int .i64 (i':Nat),.int .i64 n,.int .i64 at',.int .i64 er'],.bool true,.slice none 0 0]) (by simp[results,Tryz.results150,go_sem,f1,f2,f3,f4,f5]) rfl ?_;rw[HX.out];exact ⟨⟨_,_,rfl,HV.out,Lay.row_nil (Nat.zero_le _)⟩,M.bel⟩
 |false=>
  rw[hb]at HI HX;have HX2:=Lib.hid (HX.out.trans (if_neg (by decide)));have HI2:=Lib.hid (fun (w':World) (q:Below w.heap.size w w')=>d_is (hR.below q (Nat.le_refl _)) h' [123]);have HD:=Lib.hid h';clear hR hR0 h' hb ho hL HX;go_enter Tryz.func150,Tryz.ntmps150;go_wp2_with fail;refine HI.out.mono ?_;rintro e w1 ⟨rfl,q1⟩;have M1:=M0.below q1;clear M0 HI q1;obtain ⟨m1,m2,m3,m4,m5⟩:=(M1.k (i:=1) rfl).five;go_wp2_with fail;refine (HI2.out w1 M1.bel).mono ?_;rintro e w2 ⟨rfl,q2⟩;have M2:=M1.below q2;clear M1 HI2 q2 m1 m2 m3 m4 m5;obtain ⟨m1,m2,m3,m4,m5⟩:=(M2.k (i:=1) rfl).five;cases hb:isO [123] o with
  |false=>
   rw[hb]at HX2;have HX:=Lib.hid (HX2.out.trans (if_neg (by decide)));have HN:=Lib.hid (d_integer (HR.out.below M2.bel (Nat.le_refl _)) HD.out HL.out);clear hb HX2 HD;go_wp2_with fail;refine HN.out.mono ?_;rintro e w3 ⟨⟨v',rfl,hv⟩,q3⟩;obtain ⟨i3,at3,er3,rfl⟩:=hv.form;obtain ⟨o3,lo,hox⟩:∃o3 lo,intO o=(o3,lo):=⟨_,_,rfl⟩;have HX3:=HX.out;rw[hox]at HX3 hv;rw[hox];dsimp only at HX3 hv;have M3:=(M2.below q3).newAt rfl 133 #[.slice A L.length c,.int .i64 (i3:Nat),.int .i64 n,.int .i64 at3,.int .i64 er3];have hz3:=((M2.below q3).k (i:=0) rfl).lt;have HTK:=Lib.hid (d_take (HR.out.below M3.bel (Nat.le_refl _)) hv HL.out [46,46] (by decide));have HX:=Lib.hid HX3;clear HX3 hox hv M2 HN q3 m1 m2 m3 m4 m5;dsimp only;go_wp2_with fail;refine HTK.out.mono ?_;rintro e w4 ⟨⟨v',rfl,hv⟩,q4⟩;obtain ⟨i4,at4,er4,rfl⟩:=hv.form;have M4:=M3.below q4;have HN:=Lib.hid (d_integer (HR.out.below M4.bel (Nat.le_refl _)) hv HL.out);clear hv M3 q4 HTK;go_wp2_with fail;refine HN.out.mono ?_;rintro e w5 ⟨⟨v',rfl,hv⟩,q5⟩;obtain ⟨i5,at5,er5,rfl⟩:=hv.form;have HV:=Lib.hid hv;have M5:=(M4.below q5).newAt rfl 133 #[.slice A L.length c,.int .i64 (i5:Nat),.int .i64 n,.int .i64 at5,.int .i64 er5];generalize intO (takeO [46,46] o3)=X at*;obtain ⟨o5,up⟩:=X;have hz5:=((M4.below q5).k (i:=1) rfl).lt;have M:=M5.newAt (g:=w5.heap.size+1) (by simp) 44 #[.int .i64 lo,.int .i64 up];clear hv M4 M5 q5 HN;go_wp2_with ((with_reducible refine st_ ?_);refine wp_put2 _ _ (M.k (i:=3) rfl) rfl rfl rfl rfl info_st rfl rfl ?_;intro w6 b6 g6;replace M:=M.rowAt (i:=3) rfl (by omega) (by simp<;>omega) rfl b6 g6;obtain ⟨f1,f2,f3,f4,f5⟩:=(M.k (i:=3) rfl).five);refine bodyPost_ret (v:= .tuple #[.agg #[.slice A L.length c,.int .i64 (i5:Nat),.int .i64 n,.int .i64 at5,.int .i64 er5],.bool false,.slice (some ⟨w5.heap.size+1,0,none⟩) 1 1]) (by simp[results,Tryz.results150,go_sem,f1,f2,f3,f4,f5]) rfl ?_;rw[HX.out];exact ⟨⟨_,_,rfl,HV.out,rng_one ⟨by omega,(M.k (i:=0) rfl).lt⟩ (M.k (i:=0) rfl)⟩,M.bel⟩
  |true=>
   obtain ⟨t,r,rfl,ht⟩:=isO_some (by decide) hb;rw[hb]at HX2;have HX:=Lib.hid (HX2.out.trans (if_pos rfl));have HN:=Lib.hid (d_step HD.out HL.out w2);clear hb HX2 HD;go_wp2_with fail;refine HN.out.mono ?_;rintro e w3 ⟨⟨v',rfl,hv⟩,q3⟩;obtain ⟨i3,at3,er3,rfl⟩:=hv.form;have HV:=Lib.hid hv;have M:=M2.below q3;clear hv M2 HN q3 m1 m2 m3 m4 m5;go_wp2_with ((with_reducible refine st_ ?_);refine wp_put2 _ _ (M.k (i:=1) rfl) rfl rfl rfl rfl info_st rfl rfl ?_;intro w4 b4 g4;replace M:=M.rowAt (i:=1) rfl (by omega) (by simp<;>omega) rfl b4 g4);go_loopg [9] (257) (fun k u wr=>∃(xs:List (Int×Int)) (o':Option (List Tok)) (i':Nat) (at' er':Int),k=257-xs.length∧xs.length≤256∧Hid (domO (some (t::r))=((rgO (256-xs.length) xs o').1,false,(rgO (256-xs.length) xs o').2))∧Hid (DS A c L n (.agg #[.slice A L.length c,.int .i64 (i':Nat),.int .i64 n,.int .i64 at',.int .i64 er']) o')∧layR.own (w.heap.size+2) wr u xs∧Mem w wr [(w.heap.size+1,133,zS5),(w.heap.size,133,#[.slice A L.length c,.int .i64 (i':Nat),.int .i64 n,.int .i64 at',.int .i64 er'])] [])
   case atStart=>exact ⟨[],some r,i3,at3,er3,rfl,Nat.zero_le _,HX,HV,Lay.own_nil _ _ _,M⟩
   case round=>
    clear M;obtain ⟨xs,o',i',at',er',hk,hx,hT,hD,ho,M1⟩:=hrel;clear HX HV;obtain ⟨m1,m2,m3,m4,m5⟩:=(M1.k (i:=1) rfl).five;replace ho:layR.own (w.heap.size+2) wr _ xs:=ho;obtain ⟨A9,c9,hv9⟩:=Lay.own_len ho;cases o' with
    |none=>
     have h1:(er'==0)=false:=beq_false_of_ne hD.out.bad;subst hv9;have M:=M1;clear M1;go_wp2_with ((with_reducible refine st_ ?_);refine wp_put2 _ _ (M.k (i:=0) rfl) rfl rfl rfl rfl info_st rfl rfl ?_;intro w4 b4 g4;replace M:=M.rowAt (i:=0) rfl (by omega) (by simp<;>omega) rfl b4 g4;obtain ⟨f1,f2,f3,f4,f5⟩:=(M.k (i:=0) rfl).five);refine bodyPost_ret (v:= .tuple #[.agg #[.slice A L.length c,.int .i64 (i':Nat),.int .i64 n,.int .i64 at',.int .i64 er'],.bool false,.slice none 0 0]) (by simp[results,Tryz.results150,go_sem,f1,f2,f3,f4,f5]) rfl ?_;rw[hT.out,rgO_none];exact ⟨⟨_,_,rfl,hD.out,Lay.row_nil (Nat.zero_le _)⟩,M.bel⟩
    |some l=>
     have he:=hD.out.zero;subst he;by_cases hx64:xs.length=256
     ·have d1:((xs.length:Int)==256)=true:=by rw[hx64];rfl
      have hT2:=hT.out;rw[hx64]at hT2;have HT2:=Lib.hid hT2;have HF:=Lib.hid (fun (w':World) (q:Below w.heap.size w w')=>d_fail (HR.out.below q (Nat.le_refl _)) hD.out 3 (by decide));clear hT hT2 hk hx hx64;subst hv9;go_wp2_with fail;refine (HF.out _ M1.bel).mono ?_;rintro e w2 ⟨⟨v',rfl,hv⟩,q2⟩;obtain ⟨i2,at2,er2,rfl⟩:=hv.form;have HV:=Lib.hid hv;clear hv;have M:=M1.below q2;clear M1 m1 m2 m3 m4 m5;go_wp2_with ((with_reducible refine st_ ?_);refine wp_put2 _ _ (M.k (i:=0) rfl) rfl rfl rfl rfl info_st rfl rfl ?_;intro w4 b4 g4;replace M:=M.rowAt (i:=0) rfl (by omega) (by simp<;>omega) rfl b4 g4;obtain ⟨f1,f2,f3,f4,f5⟩:=(M.k (i:=0) rfl).five);refine bodyPost_ret (v:= .tuple #[.agg #[.slice A L.length c,.int .i64 (i2:Nat),.int .i64 n,.int .i64 at2,.int .i64 er2],.bool false,.slice none 0 0]) (by simp[results,Tryz.results150,go_sem,f1,f2,f3,f4,f5]) rfl ?_;rw[HT2.out];exact ⟨⟨_,_,rfl,HV.out,Lay.row_nil (Nat.zero_le _)⟩,M.bel⟩
     ·have d1:((xs.length:Int)==256)=false:=beq_eq_false_iff_ne.2 (by omega);obtain ⟨j,hj⟩:∃j,256-xs.length=j+1:=⟨255-xs.length,by omega⟩;have hT2:=hT.out;rw[hj]at hT2;have HT2:=Lib.hid hT2;have HJ:=Lib.hid hj;clear hT hT2 hj;subst hv9;have HO:=Lib.hid (d_integer (HR.out.below M1.bel (Nat.le_refl _)) hD.out HL.out);clear hD;go_wp2_with fail;refine HO.out.mono ?_;rintro e w3 ⟨⟨v',rfl,hv⟩,q3⟩;obtain ⟨i3,at3,er3,rfl⟩:=hv.form;obtain ⟨o3,m,hox⟩:∃o3 m,intO (some l)=(o3,m):=⟨_,_,rfl⟩;have HE:=Lib.hid (rgO_some (k:=j) (acc:=xs) hox);rw[hox]at hv;rw[hox];dsimp only at hv⊢;clear hox;have HV:=Lib.hid hv;clear hv;have M3:=M1.below q3;have hgt:=(M3.k (i:=0) rfl).lt;have ho3:=Lay.own_below ho q3;have M:=M3.newAt rfl 133 #[.slice A L.length c,.int .i64 (i3:Nat),.int .i64 n,.int .i64 at3,.int .i64 er3];have HO4:=Lib.hid (Lay.own_below ho3 (below_alloc1 w3 (.cells #[.slice A L.length c,.int .i64 (i3:Nat),.int .i64 n,.int .i64 at3,.int .i64 er3] 133)));clear M1 m1 m2 m3 m4 m5 ho3 ho HO;have hz4:w.heap.size+2≤(w3.alloc (.cells #[.slice A L.length c,.int .i64 (i3:Nat),.int .i64 n,.int .i64 at3,.int .i64 er3] 133)).heap.size:=by simp;omega
      have hdd:o3=none∧(er3==0)=false∨∃r3,o3=some r3∧er3=0:=by
       cases o3 with
       |none=>exact Or.inl ⟨rfl,beq_false_of_ne HV.out.bad⟩
       |some r3=>exact Or.inr ⟨r3,rfl,HV.out.zero⟩
      have HDD:=Lib.hid hdd;clear hdd;go_wp2_with (first
       |((with_reducible refine st_ ?_);refine wp_put2 _ _ (M.k (i:=2) rfl) rfl rfl rfl rfl info_st rfl rfl ?_;intro w4 b4 g4;replace M:=M.rowAt (i:=2) rfl (by omega) (by simp<;>omega) rfl b4 g4;obtain ⟨f1,f2,f3,f4,f5⟩:=(M.k (i:=2) rfl).five;have hz5:=Nat.le_trans hz4 g4.size;have ho5:=Lay.own_grown HO4.out g4 (fun g e=>by injection e with e;omega))
       |(at_builtin;refine Lay.wp_app layR _ _ w4 (w.heap.size+2) _ xs (m,m) #[.int .i64 m,.int .i64 m] rfl Tryz.underlying25 info_rng rfl (by decide) (by decide) ho5 hz5 (by omega) rfl rfl rng_new rfl rfl rfl rfl ?_;intro v6 w6 ho6 hg6 hb6 _;have M6:=(M.sub (Ks':=[(w.heap.size+1,133,zS5),(w.heap.size,133,#[.slice A L.length c,.int .i64 (i3:Nat),.int .i64 n,.int .i64 at3,.int .i64 er3])]) (Rs':=[]) (by simp) (by simp)).belowB hb6 (by omega) (by simp<;>omega);clear M f1 f2 f3 f4 f5 ho5;obtain ⟨m1,m2,m3,m4,m5⟩:=(M6.k (i:=1) rfl).five;obtain ⟨A6,c6,hv6⟩:=Lay.own_len ho6;rw[List.length_append,List.length_singleton]at hv6;subst hv6;rcases HDD.out with ⟨ho3n,h1⟩|⟨r3,ho3s,h1⟩))
      ·have HTK:=Lib.hid (d_take (HR.out.below M6.bel (Nat.le_refl _)) HV.out HL.out [44] (by decide));subst ho3n;have HE2:=Lib.hid (HE.out.trans (if_neg (by decide)));refine HTK.out.mono ?_;rintro e w8 ⟨⟨v',rfl,hv⟩,q8⟩;obtain ⟨i4,at4,er4,rfl⟩:=hv.form;have HV4:=Lib.hid hv;clear hv;have M:=M6.below q8;have ho8:=Lay.own_below ho6 q8;clear M6 m1 m2 m3 m4 m5 HTK;go_wp2_with ((with_reducible refine st_ ?_);refine wp_put2 _ _ (M.k (i:=1) rfl) rfl rfl rfl rfl info_st rfl rfl ?_;intro w9 b9 g9;replace M:=M.rowAt (i:=1) rfl (by omega) (by simp<;>omega) rfl b9 g9;replace ho8:=Lay.own_grown ho8 g9 (fun g e=>by injection e with e;omega));go_roundg (257-(xs.length+1))
       case measure=>omega
       case rel=>
        refine ⟨xs++[(m,m)],takeO [44] none,i4,at4,er4,by simp,by simp;omega,?_,HV4,ho8,M⟩;show _=_;rw[HT2.out,HE2.out,show 256-(xs++[(m,m)]).length=j by rw[List.length_append,List.length_singleton];have:=HJ.out;omega]
      ·subst ho3s h1;have HIS:=Lib.hid (d_is (HR.out.below M6.bel (Nat.le_refl _)) HV.out [125]);refine HIS.out.mono ?_;rintro e w7 ⟨rfl,q7⟩;have M7:=M6.below q7;have ho7:=Lay.own_below ho6 q7;clear M6 HIS ho6 m1 m2 m3 m4 m5;obtain ⟨m1,m2,m3,m4,m5⟩:=(M7.k (i:=1) rfl).five;cases hb:isO [125] (some r3) with
       |true=>
        obtain ⟨t4,r4,hr4,ht4⟩:=isO_some (by decide) hb;have hr5:r3=t4::r4:=Option.some.inj hr4;subst hr5;have HN:=Lib.hid (fun (w':World)=>d_step HV.out HL.out w');rw[hb]at HE;clear hb hr4;go_wp2_with fail;refine (HN.out w7).mono ?_;rintro e w8 ⟨⟨v',rfl,hv⟩,q8⟩;obtain ⟨i4,at4,er4,rfl⟩:=hv.form;have HV4:=Lib.hid hv;clear hv;have M:=M7.below q8;have ho8:=Lay.own_below ho7 q8;clear M7 m1 m2 m3 m4 m5 HN ho7;go_wp2_with ((with_reducible refine st_ ?_);refine wp_put2 _ _ (M.k (i:=0) rfl) rfl rfl rfl rfl info_st rfl rfl ?_;intro w9 b9 g9;replace M:=M.rowAt (i:=0) rfl (by omega) (by simp<;>omega) rfl b9 g9;obtain ⟨f1,f2,f3,f4,f5⟩:=(M.k (i:=0) rfl).five;replace ho8:=Lay.own_grown ho8 g9 (fun g e=>by injection e with e;omega));refine bodyPost_ret (v:= .tuple #[.agg #[.slice A L.length c,.int .i64 (i4:Nat),.int .i64 n,.int .i64 at4,.int .i64 er4],.bool false,.slice A6 (xs.length+1) c6]) (by simp[results,Tryz.results150,go_sem,f1,f2,f3,f4,f5]) rfl ?_;rw[HT2.out,HE.out];exact ⟨⟨_,_,rfl,HV4.out,Dt.mono _ (fun b hb=>⟨by have:=hb.1;omega,hb.2⟩) (Lay.own_row ho8)⟩,M.bel⟩
       |false=>
        have HTK:=Lib.hid (d_take (HR.out.below M7.bel (Nat.le_refl _)) HV.out HL.out [44] (by decide));rw[hb]at HE;clear hb;go_wp2_with fail;refine HTK.out.mono ?_;rintro e w8 ⟨⟨v',rfl,hv⟩,q8⟩;obtain ⟨i4,at4,er4,rfl⟩:=hv.form;have HV4:=Lib.hid hv;clear hv;have M:=M7.below q8;have ho8:=Lay.own_below ho7 q8;clear M7 m1 m2 m3 m4 m5 HTK ho7;go_wp2_with ((with_reducible refine st_ ?_);refine wp_put2 _ _ (M.k (i:=1) rfl) rfl rfl rfl rfl info_st rfl rfl ?_;intro w9 b9 g9;replace M:=M.rowAt (i:=1) rfl (by omega) (by simp<;>omega) rfl b9 g9;replace ho8:=Lay.own_grown ho8 g9 (fun g e=>by injection e with e;omega));go_roundg (257-(xs.length+1))
        case measure=>omega
        case rel=>
         refine ⟨xs++[(m,m)],takeO [44] (some r3),i4,at4,er4,by simp,by simp;omega,?_,HV4,ho8,M⟩;show _=_;rw[HT2.out,HE.out,show 256-(xs++[(m,m)]).length=j by rw[List.length_append,List.length_singleton];have:=HJ.out;omega];rfl
end Go.Proofs.YtpfhgkielakmoaaGreatDoor
set_option maxHeartbeats 4000000
set_option maxRecDepth 100000
set_option linter.unusedSimpArgs false
set_option linter.unusedVariables false
namespace Go.Proofs.YtpfhgkielakmoaaGreatDoor
open Go.RowKit Num
structure MK (wd:World) (lo:Nat) (w0 w:World) (Ks:List (Nat×TypeId×Array Value)):Prop where
 mem:Mem w0 w Ks []
 keep:∀b,lo≤b→b<wd.heap.size→w.heap[b]? =wd.heap[b]?
 size:wd.heap.size≤w.heap.size
section
variable {wd w0 w w' : World} {lo : Nat} {Ks : List (Nat × TypeId × Array Value)}
theorem MK.bel (M:MK wd lo w0 w Ks):Below w0.heap.size w0 w:=M.mem.bel
theorem MK.k (M:MK wd lo w0 w Ks) {i:Nat} {g:Nat} {t:TypeId} {cs:Array Value} (hi:Ks[i]? =some (g,t,cs)):Blk w g t cs:=M.mem.k hi
theorem MK.below (M:MK wd lo w0 w Ks) (q:Below w.heap.size w w'):MK wd lo w0 w' Ks:=⟨M.mem.below q,fun b h1 h2=>(q.block b (Nat.lt_of_lt_of_le h2 M.size)).trans (M.keep b h1 h2),Nat.le_trans M.size q.size⟩
theorem MK.drew (M:MK wd lo w0 w Ks):MK wd lo w0 w.drew Ks:=⟨M.mem.drew,M.keep,M.size⟩
theorem MK.newAt (M:MK wd lo w0 w Ks) {g:Nat} (hg:g=w.heap.size) (t:TypeId) (cs:Array Value):MK wd lo w0 (w.alloc (.cells cs t)) ((g,t,cs)::Ks):=
 ⟨M.mem.newAt hg t cs,(M.below (below_alloc1 w (.cells cs t))).keep,(M.below (below_alloc1 w (.cells cs t))).size⟩
theorem MK.rowAt {i g:Nat} {t:TypeId} {z cs:Array Value} (M:MK wd lo w0 w Ks) (hi:Ks[i]? =some (g,t,z)) (h1:w0.heap.size≤g∧(g<lo∨wd.heap.size≤g)) (h3:∀k∈Ks.eraseIdx i,k.1≠g) (hz:z.toList.all nu=true) (b:Blk w' g t cs) (gr:w.grownBy w' (some g)):MK wd lo w0 w' (Ks.set i (g,t,cs)):=
 ⟨M.mem.rowAt hi h1.1 h3 hz b gr,fun b' hb1 hb2=>(gr.block b' (Nat.lt_of_lt_of_le hb2 M.size) (fun e=>by injection e with e;omega)).trans (M.keep b' hb1 hb2),Nat.le_trans M.size gr.size⟩
theorem MK.set {i g:Nat} {t:TypeId} {z:Array Value} (M:MK wd lo w0 w Ks) (hi:Ks[i]? =some (g,t,z)) (h1:w0.heap.size≤g∧(g<lo∨wd.heap.size≤g)) (h3:∀k∈Ks.eraseIdx i,k.1≠g) (hz:z.toList.all nu=true) (j:Nat) (u:Value):
 MK wd lo w0 (w.setCell ⟨g,j,none⟩ u) (Ks.set i (g,t,z.setIfInBounds j u)):=M.rowAt hi h1 h3 hz ((M.k hi).set_ j u) (grown_set w ⟨g,j,none⟩ u)
theorem MK.sub {Ks':List (Nat×TypeId×Array Value)} (M:MK wd lo w0 w Ks) (h:∀k∈Ks',k∈Ks):MK wd lo w0 w Ks':=⟨M.mem.sub h (fun _ h=>by cases h),M.keep,M.size⟩
theorem MK.again (M:MK wd lo w0 w Ks) (lo':Nat):MK w lo' w0 w Ks:=⟨M.mem,fun _ _ _=>rfl,Nat.le_refl _⟩
theorem MK.of (M:Mem w0 w Ks []) (lo':Nat):MK w0 lo' w0 w Ks:=⟨M,fun b _ h=>M.bel.block b h,M.bel.size⟩
theorem MK.dt {α:Type} {D:Dt α} {v:Value} {a:α} (M:MK wd lo w0 w Ks) (h:D.P (since lo wd) wd v a) (hl:w0.heap.size≤lo):D.P (since w0.heap.size w) w v a:=
 D.mono (fun b hb=>⟨Nat.le_trans hl hb.1,Nat.lt_of_lt_of_le hb.2 M.size⟩) (D.keep M.size (fun b hb hlt=>M.keep b hb.1 hlt) h)
end
theorem eight_i {w:World} {g:Nat} {t:TypeId} {a b c d e f h i:Value} (k:Blk w g t #[a,b,c,d,e,f,h,i]):w.cell? ⟨g,0,none⟩=some a∧w.cell? ⟨g,1,none⟩=some b∧w.cell? ⟨g,2,none⟩=some c∧w.cell? ⟨g,3,none⟩=some d∧w.cell? ⟨g,4,none⟩=some e∧w.cell? ⟨g,5,none⟩=some f∧w.cell? ⟨g,6,none⟩=some h∧w.cell? ⟨g,7,none⟩=some i:=Blk.eight k
theorem info_rit8:(Tryz.prog.info? 28).map (·.size)=some 8:=by kernel_rfl
def ItPost (A:Option Addr) (c:Nat) (L:List Tok) (n:Int) (w:World) (r:Option (List Tok)×It) (e:Ending) (w':World):Prop:=
 (∃v' u,e= .returned (.tuple #[v',u])∧DS A c L n v' r.1∧(layI 28 50).agg (since w.heap.size w') w' u r.2)∧Below w.heap.size w w'
theorem vit {F:Nat→Prop} {w:World} {x:It} {D V:Value} (hD:layR.row.P F w D x.dom) (hV:(layE 50).row.P F w V x.vals):(layI 28 50).agg F w (.agg #[.int .i64 x.k,.string ⟨x.name.toArray⟩,.bool x.bool,D,.int .i64 x.size,.bool x.out,V,.int .i64 x.ask]) x:=by
 refine ⟨_,rfl,rfl,fun k hk=> ?_⟩;have hk8:k<8:=hk;match k,hk8 with
 |0,_=>exact ⟨_,rfl,rfl⟩
 |1,_=>exact ⟨_,rfl,rfl⟩
 |2,_=>exact ⟨_,rfl,rfl⟩
 |3,_=>exact ⟨_,rfl,hD⟩
 |4,_=>exact ⟨_,rfl,rfl⟩
 |5,_=>exact ⟨_,rfl,rfl⟩
 |6,_=>exact ⟨_,rfl,hV⟩
 |7,_=>exact ⟨_,rfl,rfl⟩
theorem ex_one {F:Nat→Prop} {w:World} {g:Nat} {x:Ex} (hx:x.l=[]) (hF:F g) (h:Blk w g 50 #[.int .i64 x.k,.int .i64 x.n,.string ⟨x.s.toArray⟩,.slice none 0 0]):(layE 50).row.P F w (.slice (some ⟨g,0,none⟩) 1 1) [x]:=by
 refine ⟨_,_,rfl,Nat.le_refl _,by unfold maxLen;omega,fun _=>⟨g,0,rfl,hF,h.lt,fun j hj k hk=> ?_⟩⟩;have hj1:j=0:=by rw[List.length_singleton]at hj;omega
 subst hj1;have hk4:k<4:=hk;match k,hk4 with
 |0,_=>exact ⟨_,h.cell 0,rfl⟩
 |1,_=>exact ⟨_,h.cell 1,rfl⟩
 |2,_=>exact ⟨_,h.cell 2,rfl⟩
 |3,_=>
  refine ⟨_,h.cell 3,?_⟩;show (layE0 _).row.P _ _ _ x.l;rw[hx];exact Lay.row_nil (Nat.zero_le _)
theorem d_failE {A:Option Addr} {c:Nat} {L:List Tok} {n:Int} {v:Value} {o:Option (List Tok)} (h:DS A c L n v o) (e0:Int) (he:e0≠0):∃v',DS A c L n v' none∧∀w,RdT w A c L→Calls Tryz.prog 93 #[v,.int .i64 e0] w fun e w'=>e= .returned v'∧Below w.heap.size w w':=by
 obtain ⟨i,at_,er,rfl,hi,ho⟩:=h;by_cases h0:er=0
 ·subst h0;by_cases hl:i<L.length
  ·refine ⟨.agg #[.slice A L.length c,.int .i64 (i:Nat),.int .i64 n,.int .i64 L[i].at_,.int .i64 e0],⟨i,_,e0,rfl,hi,he⟩,fun w hR=> ?_⟩;have d1:decide ((i:Int)<(L.length:Int))=true:=decide_eq_true (by omega);obtain ⟨b,oo,hA,hb,hc⟩:=hR.at_ (lt_ne0 hl);obtain ⟨c1,c2,c3,c4⟩:=hc i hl;subst hA;clear hc hR;generalize L[i].at_=p at*;go_enter Tryz.func93,Tryz.ntmps93;go_wp2_with fail;refine bodyPost_ret (v:= .agg #[.slice (some ⟨b,oo,none⟩) L.length c,.int .i64 (i:Nat),.int .i64 n,.int .i64 p,.int .i64 e0]) (by simp[results,Tryz.results93,go_sem]) rfl ⟨rfl,?_⟩;exact below_trans (below_alloc1 _ _) (below_alloc1 _ _)
  ·refine ⟨.agg #[.slice A L.length c,.int .i64 (i:Nat),.int .i64 n,.int .i64 n,.int .i64 e0],⟨i,_,e0,rfl,hi,he⟩,fun w hR=> ?_⟩;have d1:decide ((i:Int)<(L.length:Int))=false:=decide_eq_false (by omega);clear hR;go_enter Tryz.func93,Tryz.ntmps93;go_wp2_with fail;refine bodyPost_ret (v:= .agg #[.slice A L.length c,.int .i64 (i:Nat),.int .i64 n,.int .i64 n,.int .i64 e0]) (by simp[results,Tryz.results93,go_sem]) rfl ⟨rfl,?_⟩;exact below_trans (below_alloc1 _ _) (below_alloc1 _ _)
 ·refine ⟨.agg #[.slice A L.length c,.int .i64 (i:Nat),.int .i64 n,.int .i64 at_,.int .i64 er],⟨i,_,er,rfl,hi,h0⟩,fun w hR=> ?_⟩;have h1:(er !=0)=true:=(by simp[h0]);clear hR ho;go_enter Tryz.func93,Tryz.ntmps93;go_wp2_with fail;refine bodyPost_ret (v:= .agg #[.slice A L.length c,.int .i64 (i:Nat),.int .i64 n,.int .i64 at_,.int .i64 er]) (by simp[results,Tryz.results93,go_sem]) rfl ⟨rfl,?_⟩;exact below_trans (below_alloc1 _ _) (below_alloc1 _ _)
theorem d_wrongE {A:Option Addr} {c:Nat} {L:List Tok} {n:Int} {v:Value} {o:Option (List Tok)} (h:DS A c L n v o):∃v',DS A c L n v' none∧∀w,RdT w A c L→Calls Tryz.prog 132 #[v] w fun e w'=>e= .returned v'∧Below w.heap.size w w':=by
 have h':=h;obtain ⟨i,at_,er,rfl,hi,ho⟩:=h;have hM:∀w:World,Mem w ((w.alloc (.cells #[.slice A L.length c,.int .i64 (i:Nat),.int .i64 n,.int .i64 at_,.int .i64 er] 133)).alloc (.cells #[.slice none 0 0,.int .i64 0,.int .i64 0,.int .i64 0,.int .i64 0] 133)) [(w.heap.size+1,133,zS5),(w.heap.size,133,#[.slice A L.length c,.int .i64 (i:Nat),.int .i64 n,.int .i64 at_,.int .i64 er])] []:=fun w=>((Mem.start w).new 133 _).newAt (by simp) 133 _;by_cases hl:i<L.length
 ·obtain ⟨v',hv,hF⟩:=d_failE h' 5 (by decide);refine ⟨v',hv,fun w hR=> ?_⟩;have M0:=hM w;have HF:=Lib.hid (hF _ (hR.below M0.bel (Nat.le_refl _)));obtain ⟨i',at',er',rfl⟩:=hv.form;have d1:decide ((L.length:Int)≤(i:Int))=false:=decide_eq_false (by omega);clear hM hF hv h' hR ho;go_enter Tryz.func132,Tryz.ntmps132;go_wp2_with fail;refine HF.out.mono ?_;rintro e w1 ⟨rfl,q1⟩;have M:=M0.below q1;clear M0 HF;go_wp2_with ((with_reducible refine st_ ?_);refine wp_put2 _ _ (M.k (i:=0) rfl) rfl rfl rfl rfl info_st rfl rfl ?_;intro w4 b4 g4;replace M:=M.rowAt (i:=0) rfl (by omega) (by simp<;>omega) rfl b4 g4;obtain ⟨f1,f2,f3,f4,f5⟩:=(M.k (i:=0) rfl).five);exact bodyPost_ret (v:= .agg #[.slice A L.length c,.int .i64 (i':Nat),.int .i64 n,.int .i64 at',.int .i64 er']) (by simp[results,Tryz.results132,go_sem,f1,f2,f3,f4,f5]) rfl ⟨rfl,M.bel⟩
 ·obtain ⟨v',hv,hF⟩:=d_failE h' 6 (by decide);refine ⟨v',hv,fun w hR=> ?_⟩;have M0:=hM w;have HF:=Lib.hid (hF _ (hR.below M0.bel (Nat.le_refl _)));obtain ⟨i',at',er',rfl⟩:=hv.form;have d1:decide ((L.length:Int)≤(i:Int))=true:=decide_eq_true (by omega);clear hM hF hv h' hR ho;go_enter Tryz.func132,Tryz.ntmps132;go_wp2_with fail;refine HF.out.mono ?_;rintro e w1 ⟨rfl,q1⟩;have M:=M0.below q1;clear M0 HF;go_wp2_with ((with_reducible refine st_ ?_);refine wp_put2 _ _ (M.k (i:=0) rfl) rfl rfl rfl rfl info_st rfl rfl ?_;intro w4 b4 g4;replace M:=M.rowAt (i:=0) rfl (by omega) (by simp<;>omega) rfl b4 g4;obtain ⟨f1,f2,f3,f4,f5⟩:=(M.k (i:=0) rfl).five);exact bodyPost_ret (v:= .agg #[.slice A L.length c,.int .i64 (i':Nat),.int .i64 n,.int .i64 at',.int .i64 er']) (by simp[results,Tryz.results132,go_sem,f1,f2,f3,f4,f5]) rfl ⟨rfl,M.bel⟩
theorem d_stepE {A:Option Addr} {c:Nat} {L:List Tok} {n:Int} {v:Value} {t:Tok} {r:List Tok} (h:DS A c L n v (some (t::r))) (hL:L.length≤10000):∃v',DS A c L n v' (some r)∧∀w,Calls Tryz.prog 127 #[v] w fun e w'=>e= .returned v'∧Below w.heap.size w w':=by
 obtain ⟨i,at_,rfl,hl,h1,h2⟩:=ds_some h;exact ⟨_,by rw[h2];exact ds_next hl,fun w=>d_next A c L.length n at_ 0 i (by omega) w⟩
def varO (o:Option (List Tok)):Option (List Tok)×It:=
 let d:=domO o
 let nm:=nameO (takeO [58] d.1)
 let s1:Option (List Tok)×Bool:=if isO [58,58] nm.1 then (takeO wOutVar (nm.1.map List.tail),true) else (nm.1,false)
 let s2:Option (List Tok)×List Ex:=if isO [61] s1.1 then ((plainO (s1.1.map List.tail)).1,[(plainO (s1.1.map List.tail)).2]) else (s1.1,[])
 (s2.1,⟨2,nm.2,d.2.1,d.2.2,0,s1.2,s2.2,0⟩)
def parO (o:Option (List Tok)):Option (List Tok)×It:=
 let kd:=kindO o
 let nm:=nameO (takeO [58] kd.1)
 let t:=takeO [61] nm.1
 if (kd.2&&(isO wTrue t||isO wFalse t))||(!kd.2&&numO t) then ((plainO t).1,⟨1,nm.2,kd.2,[],0,false,[(plainO t).2],0⟩) else (none,⟨1,nm.2,kd.2,[],0,false,[],0⟩)
def arrO (o:Option (List Tok)):Option (List Tok)×It:=
 let sz:=intO (takeO [46,46] (exactO 1 (takeO [91] o)))
 let s2:=takeO wOf (takeO [93] sz.1)
 let s3:Option (List Tok)×Int:=if isO wVar s2 then (s2.map List.tail,4) else (s2,3)
 let kd:=kindO s3.1
 let nm:=nameO (takeO [58] kd.1)
 let s4:Option (List Tok)×Bool:=if s3.2=4∧isO [58,58] nm.1=true then (takeO [41] (takeO [93] (exactO sz.2 (takeO [46,46] (exactO 1 (takeO [91] (takeO [40] (takeO wOutArray (nm.1.map List.tail)))))))),true) else (nm.1,false)
 let s5:=takeO [91] (takeO [61] s4.1)
 let xs:Option (List Tok)×List Ex:=match s5 with
  |none=>(none,[])
  |some l=>exprsO [93] plainO (some l)
 (xs.1,⟨s3.2,nm.2,kd.2,[],sz.2,s4.2,xs.2,0⟩)
def solO (o:Option (List Tok)):Option (List Tok)×It:=
 if isO wSatisfy o then (o.map List.tail,⟨6,[],false,[],0,false,[],0⟩)
 else if isO wMinimize o then ((nameO (o.map List.tail)).1,⟨6,(nameO (o.map List.tail)).2,false,[],0,false,[],1⟩)
 else if isO wMaximize o then ((nameO (o.map List.tail)).1,⟨6,(nameO (o.map List.tail)).2,false,[],0,false,[],2⟩)
 else (none,⟨6,[],false,[],0,false,[],0⟩)
def itZ:It:=⟨0,[],false,[],0,false,[],0⟩
def conO (o:Option (List Tok)):Option (List Tok)×It:=
 let nm:=nameO o
 match takeO [40] nm.1 with
 |none=>(none,itZ)
 |some l=>((exprsO [41] exprO (some l)).1,⟨5,nm.2,false,[],0,false,(exprsO [41] exprO (some l)).2,0⟩)
def itemO (o:Option (List Tok)):Option (List Tok)×It:=
 if hereO o=wInt∨hereO o=wBool then parO o
 else if hereO o=wVar then varO (o.map List.tail)
 else if hereO o=wArray then arrO (o.map List.tail)
 else if hereO o=wConstraint then conO (o.map List.tail)
 else if hereO o=wSolve then solO (o.map List.tail)
 else (none,itZ)
theorem here_some {o:Option (List Tok)} {s:List UInt8} (h:hereO o=s) (hs:s≠[]):∃t r,o=some (t::r):=by
 match o,h with
 |none,h=>exact absurd h.symm hs
 |some [],h=>exact absurd h.symm hs
 |some (t::r),_=>exact ⟨t,r,rfl⟩
theorem vit_parts {F:Nat→Prop} {w:World} {u:Value} {x:It} (h:(layI 28 50).agg F w u x):∃D V,u= .agg #[.int .i64 x.k,.string ⟨x.name.toArray⟩,.bool x.bool,D,.int .i64 x.size,.bool x.out,V,.int .i64 x.ask]∧layR.row.P F w D x.dom∧(layE 50).row.P F w V x.vals:=by
 obtain ⟨vs,rfl,hs,hc⟩:=h;obtain ⟨u0,h0,p0⟩:=hc 0 (by decide);obtain ⟨u1,h1,p1⟩:=hc 1 (by decide);obtain ⟨u2,h2,p2⟩:=hc 2 (by decide);obtain ⟨u3,h3,p3⟩:=hc 3 (by decide);obtain ⟨u4,h4,p4⟩:=hc 4 (by decide);obtain ⟨u5,h5,p5⟩:=hc 5 (by decide);obtain ⟨u6,h6,p6⟩:=hc 6 (by decide);obtain ⟨u7,h7,p7⟩:=hc 7 (by decide);have e0:u0= .int .i64 x.k:=p0;have e1:u1= .string ⟨x.name.toArray⟩:=p1;have e2:u2= .bool x.bool:=p2;have e4:u4= .int .i64 x.size:=p4;have e5:u5= .bool x.out:=p5;have e7:u7= .int .i64 x.ask:=p7;subst e0 e1 e2 e4 e5 e7;have hs8:vs.size=8:=hs;refine ⟨u3,u6,?_,p3,p6⟩;congr 1;apply Array.ext_getElem?;intro i;match i with
 |0=>exact h0
 |1=>exact h1
 |2=>exact h2
 |3=>exact h3
 |4=>exact h4
 |5=>exact h5
 |6=>exact h6
 |7=>exact h7
 |i+8=>rw[Array.getElem?_eq_none (by omega),Array.getElem?_eq_none (by show 8≤i+8;omega)]
end Go.Proofs.YtpfhgkielakmoaaGreatDoor

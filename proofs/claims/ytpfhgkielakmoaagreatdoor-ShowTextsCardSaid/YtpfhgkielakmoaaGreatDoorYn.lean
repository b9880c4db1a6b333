import Derived.Test.YtpfhgkielakmoaaGreatDoorYm
import Derived.Test.YtpfhgkielakmoaaGreatDoorVj
import Derived.Test.YtpfhgkielakmoaaGreatDoorVo
import Derived.BigQuiet
set_option maxHeartbeats 40000000
set_option maxRecDepth 100000
set_option linter.unusedSimpArgs false
set_option linter.unusedVariables false
namespace Go.Proofs.YtpfhgkielakmoaaGreatDoor
open Go.RowKit Num
theorem splitB_few (n:Nat):∀(k:Nat) (l:List UInt8) (acc:List Tok),l.length≤k→acc.length≤4096→(splitB n l acc).1.length≤4096:=by
 intro k;induction k with
 |zero=>
  intro l acc hl ha;obtain rfl:l=[]:=List.length_eq_zero_iff.1 (by omega);rw[splitB_nil];exact ha
 |succ k ih=>
  intro l acc hl ha;by_cases h0:l=[]
  ·subst h0;rw[splitB_nil];exact ha
  ·by_cases hacc:acc.length=4096
   ·rw[splitB,if_neg h0,if_pos hacc];exact Nat.zero_le _
   ·rw[splitB_cons h0 hacc];by_cases hw:(wordL l).1=0
    ·rw[if_pos hw];exact Nat.zero_le _
    ·rw[if_neg hw];have h1:=wordL_pos hw;have h2:=blankL_le (l.drop (wordL l).2);rw[List.length_drop]at h2;split
     ·refine ih _ _ (by omega) ?_;rw[List.length_append,List.length_singleton];omega
     ·exact Nat.zero_le _
theorem splitR_few (l:List UInt8):(splitR l).1.length≤4096:=by
 unfold splitR;split
 ·exact Nat.zero_le _
 ·exact splitB_few _ _ _ [] (Nat.le_refl _) (Nat.zero_le _)
def allO:Nat→List It→List Tok→Option (List It)
 |_,acc,[]=>some acc
 |0,_,_::_=>none
 |k+1,acc,t::l=>match takeO [59] (itemO (some (t::l))).1 with
  |none=>none
  |some r=>allO k (acc++[(itemO (some (t::l))).2]) r
def dtextO (s:List UInt8):Option (List It):=if (splitR s).2.2=0 then allO 512 [] (splitR s).1 else none
theorem allO_nil (k:Nat) (acc:List It):allO k acc []=some acc:=by cases k<;>rfl
theorem allO_bad {k:Nat} {acc:List It} {t:Tok} {l:List Tok} {o1:Option (List Tok)} {x:It} (h:itemO (some (t::l))=(o1,x)) (h2:takeO [59] o1=none):allO (k+1) acc (t::l)=none:=by
 show (match takeO [59] (itemO (some (t::l))).1 with|none=>none|some r=>allO k (acc++[(itemO (some (t::l))).2]) r)=_;rw[h];dsimp only;rw[h2]
theorem allO_ok {k:Nat} {acc:List It} {t:Tok} {l r:List Tok} {o1:Option (List Tok)} {x:It} (h:itemO (some (t::l))=(o1,x)) (h2:takeO [59] o1=some r):allO (k+1) acc (t::l)=allO k (acc++[x]) r:=by
 show (match takeO [59] (itemO (some (t::l))).1 with|none=>none|some r=>allO k (acc++[(itemO (some (t::l))).2]) r)=_;rw[h];dsimp only;rw[h2]
def TxPost (w:World) (r:Option (List It)) (e:Ending) (w':World):Prop:=
 (∃S at_ er,e= .returned (.tuple #[S,.int .i64 at_,.int .i64 er])∧(match r with
  |some its=>er=0∧(layI 28 50).row.P (since w.heap.size w') w' S its
  |none=>er≠0))∧Below w.heap.size w w'
theorem DS.rest {A:Option Addr} {c:Nat} {L:List Tok} {n:Int} {i:Nat} {a e:Int} {l:List Tok} (h:DS A c L n (.agg #[.slice A L.length c,.int .i64 (i:Nat),.int .i64 n,.int .i64 a,.int .i64 e]) (some l)):l=L.drop i:=by
 obtain ⟨i',a',e',hv,_,_,hr⟩:=h;injection hv with hv;injection hv with hv;injection hv with _ hv;injection hv with hv2 hv;injection hv2 with _ hi;rw[hr];congr 1;omega
theorem it_newd {F:Nat→Prop} {w:World} {x:It} {A3 A6:Option Addr} {n3 n6:Nat} (hD:layR.row.P F w (.slice A3 x.dom.length n3) x.dom) (hV:(layE 50).row.P F w (.slice A6 x.vals.length n6) x.vals):∀k,k<(layI 28 50).sz→∃u,(#[Value.int .i64 x.k,.string ⟨x.name.toArray⟩,.bool x.bool,.slice A3 x.dom.length n3,.int .i64 x.size,.bool x.out,.slice A6 x.vals.length n6,.int .i64 x.ask]:Array Value).toList[k]? =some u∧((layI 28 50).C k).P F w u x:=fun k hk=>by
 have hk8:k<8:=hk;match k,hk8 with
 |0,_=>exact ⟨_,rfl,rfl⟩
 |1,_=>exact ⟨_,rfl,rfl⟩
 |2,_=>exact ⟨_,rfl,rfl⟩
 |3,_=>exact ⟨_,rfl,hD⟩
 |4,_=>exact ⟨_,rfl,rfl⟩
 |5,_=>exact ⟨_,rfl,rfl⟩
 |6,_=>exact ⟨_,rfl,hV⟩
 |7,_=>exact ⟨_,rfl,rfl⟩
theorem d_text (s:ByteArray) (hs:s.size≤1000000) (w:World):Calls Tryz.prog 49 #[.string s] w (TxPost w (dtextO s.data.toList)):=by
 have hfew:=splitR_few s.data.toList;go_enter Tryz.func49,Tryz.ntmps49;go_wp2_with fail;refine (rsplit_any s w).mono ?_;rintro e w1 h1;obtain ⟨A,c,rfl,hA,q1⟩:=h1.rd;clear h1;have hX:dtextO s.data.toList=if (splitR s.data.toList).2.2=0 then allO 512 [] (splitR s.data.toList).1 else none:=rfl
 generalize splitR s.data.toList=r at*;obtain ⟨tl,p,er⟩:=r;dsimp only at*;by_cases he:er=0
 ·subst he;have HX:=Lib.hid (hX.trans (if_pos rfl));have HR:=Lib.hid hA;have HL:=Lib.hid (show tl.length≤10000 by omega);have M:=(Mem.start w1).newAt rfl 133 #[.slice A tl.length c,.int .i64 ((0:Nat):Int),.int .i64 s.size,.int .i64 0,.int .i64 0];have HD:Hid (DS A c tl s.size (.agg #[.slice A tl.length c,.int .i64 ((0:Nat):Int),.int .i64 s.size,.int .i64 0,.int .i64 0]) (some tl)):=⟨0,0,0,rfl,Nat.zero_le _,rfl,rfl⟩;have hz1:=q1.size;clear hX hA hfew;go_wp2_with fail;go_loopg [9] (513) (fun k u wr=>∃(xs:List It) (l:List Tok) (i':Nat) (at':Int),k=513-xs.length∧xs.length≤512∧Hid (dtextO s.data.toList=allO (512-xs.length) xs l)∧Hid (DS A c tl s.size (.agg #[.slice A tl.length c,.int .i64 (i':Nat),.int .i64 s.size,.int .i64 at',.int .i64 0]) (some l))∧(layI 28 50).own (w1.heap.size+1) wr u xs∧Mem w1 wr [(w1.heap.size,133,#[.slice A tl.length c,.int .i64 (i':Nat),.int .i64 s.size,.int .i64 at',.int .i64 0])] [])
  case atStart=>exact ⟨[],tl,0,0,rfl,Nat.zero_le _,HX,HD,Lay.own_nil _ _ _,M⟩
  case round=>
   clear M HD HX;obtain ⟨xs,l,i',at',hk,hx,hT,hD,ho,M1⟩:=hrel;obtain ⟨m1,m2,m3,m4,m5⟩:=(M1.k (i:=0) rfl).five;replace ho:(layI 28 50).own (w1.heap.size+1) wr _ xs:=ho;obtain ⟨A9,c9,hv9⟩:=Lay.own_len ho;have hrest:=hD.out.rest;cases l with
   |nil=>
    have hge:tl.length≤i':=by
     rcases Nat.lt_or_ge i' tl.length with h|h
     ·rw[drop_head h]at hrest;cases hrest
     ·exact h
    have d1:decide ((i':Int)<(tl.length:Int))=false:=decide_eq_false (by omega);clear hrest;subst hv9;go_wp2_with fail;refine bodyPost_ret (v:= .tuple #[.slice A9 xs.length c9,.int .i64 0,.int .i64 0]) (by simp[results,Tryz.results49,go_sem]) rfl ?_;rw[hT.out,allO_nil];exact ⟨⟨_,_,_,rfl,rfl,Dt.mono _ (fun b hb=>⟨by have:=hb.1;omega,hb.2⟩) (Lay.own_row ho)⟩,q1.trans (M1.bel.mono hz1)⟩
   |cons t l=>
    have hlt9:i'<tl.length:=by
     rcases Nat.lt_or_ge i' tl.length with h|h
     ·exact h
     ·rw[List.drop_eq_nil_of_le h]at hrest;cases hrest
    have d1:decide ((i':Int)<(tl.length:Int))=true:=decide_eq_true (by omega);clear hrest;by_cases hx64:xs.length=512
    ·have d2:((xs.length:Int)==512)=true:=by rw[hx64];rfl
     have hT2:=hT.out;rw[hx64]at hT2;have HT2:=Lib.hid hT2;have HF:=Lib.hid (d_fail (HR.out.below M1.bel (Nat.le_refl _)) hD.out 3 (by decide));clear hT hT2 hk hx hx64 hD;subst hv9;go_wp2_with fail;refine HF.out.mono ?_;rintro e w2 ⟨⟨v',rfl,hv⟩,q2⟩;obtain ⟨i2,at2,er2,rfl⟩:=hv.form;have hbad:=hv.bad;clear hv HF;have M:=M1.below q2;clear M1 m1 m2 m3 m4 m5;go_upto_region 9 with ((with_reducible refine st_ ?_);refine wp_put2 _ _ (M.k (i:=0) rfl) rfl rfl rfl rfl info_st rfl rfl ?_;intro w4 b4 g4;replace M:=M.rowAt (i:=0) rfl (by omega) (by simp) rfl b4 g4;obtain ⟨f1,f2,f3,f4,f5⟩:=(M.k (i:=0) rfl).five);go_quiet (fail);go_wp2_with fail;refine bodyPost_ret (v:= .tuple #[.slice none 0 0,.int .i64 at2,.int .i64 er2]) (by simp[results,Tryz.results49,go_sem]) rfl ?_;rw[HT2.out];exact ⟨⟨_,_,_,rfl,hbad⟩,below_dn (q1.trans (M.bel.mono hz1)) _⟩
    ·have d2:((xs.length:Int)==512)=false:=beq_eq_false_iff_ne.2 (by omega);obtain ⟨j,hj⟩:∃j,512-xs.length=j+1:=⟨511-xs.length,by omega⟩;have hT2:=hT.out;rw[hj]at hT2;have HT2:=Lib.hid hT2;have HJ:=Lib.hid hj;clear hT hT2 hj;subst hv9;have HO:=Lib.hid (d_item (HR.out.below M1.bel (Nat.le_refl _)) hD.out HL.out);clear hD;go_wp2_with fail;refine HO.out.mono ?_;rintro e w3 ⟨⟨v',u',rfl,hv,hu⟩,q3⟩;obtain ⟨i3,at3,er3,rfl⟩:=hv.form;obtain ⟨o3,x,hox⟩:∃o3 x,itemO (some (t::l))=(o3,x):=⟨_,_,rfl⟩;rw[hox]at hv hu;dsimp only at hv hu;have HOX:=Lib.hid hox;clear hox;obtain ⟨D,V,rfl,hD,hV⟩:=vit_parts hu;obtain ⟨A3,n3,rfl⟩:=Lay.row_len hD;obtain ⟨A6,n6,rfl⟩:=Lay.row_len hV;have hwr:w1.heap.size+1≤wr.heap.size:=(M1.k (i:=0) rfl).lt;have hlt:=Lay.own_lt ho;have hown:∀b,since wr.heap.size w3 b→inF (w1.heap.size+1) w3 (.slice A9 xs.length c9) b:=fun b hb=>⟨Nat.le_trans hwr hb.1,hb.2,fun e=>by
      have:=(hlt b e).2;have:=hb.1;omega⟩
     have HD3:=Lib.hid (Dt.mono _ hown hD);have HV3:=Lib.hid (Dt.mono _ hown hV);have HO3:=Lib.hid (Lay.own_below ho q3);have HV:=Lib.hid hv;have M3:=M1.below q3;have hgt:=(M3.k (i:=0) rfl).lt;have M:=(M3.newAt rfl 133 #[.slice A tl.length c,.int .i64 (i3:Nat),.int .i64 s.size,.int .i64 at3,.int .i64 er3]).newAt (g:=w3.heap.size+1) (by simp) 28 #[.int .i64 x.k,.string ⟨x.name.toArray⟩,.bool x.bool,.slice A3 x.dom.length n3,.int .i64 x.size,.bool x.out,.slice A6 x.vals.length n6,.int .i64 x.ask];have q45:=below_trans (below_alloc1 w3 (.cells #[.slice A tl.length c,.int .i64 (i3:Nat),.int .i64 s.size,.int .i64 at3,.int .i64 er3] 133)) (below_alloc1 _ (.cells #[.int .i64 x.k,.string ⟨x.name.toArray⟩,.bool x.bool,.slice A3 x.dom.length n3,.int .i64 x.size,.bool x.out,.slice A6 x.vals.length n6,.int .i64 x.ask] 28));have HD4:=Lib.hid (Dt.below _ HD3.out q45 (Nat.le_refl _));have HV4:=Lib.hid (Dt.below _ HV3.out q45 (Nat.le_refl _));have HO4:=Lib.hid (Lay.own_below HO3.out q45);obtain ⟨f1,f2,f3,f4,f5⟩:=(M.k (i:=1) rfl).five;have HTK:=Lib.hid (d_take (HR.out.below M.bel (Nat.le_refl _)) HV.out HL.out [59] (by decide));have hz5:=q45.size;clear hv hu hD hV HD3 HV3 HO3 hown M1 M3 m1 m2 m3 m4 m5 HO ho q45;go_wp2_with fail;refine HTK.out.mono ?_;rintro e w5 ⟨⟨v',rfl,hv⟩,q5⟩;obtain ⟨i5,at5,er5,rfl⟩:=hv.form;have HD5:=Lib.hid (Dt.below _ HD4.out q5 (Nat.le_refl _));have HV5:=Lib.hid (Dt.below _ HV4.out q5 (Nat.le_refl _));have HO5:=Lib.hid (Lay.own_below HO4.out q5);replace M:=M.below q5;have hz6:=q5.size;clear f1 f2 f3 f4 f5 HD4 HV4 HO4 HTK q5;obtain ⟨o5,ho5⟩:∃o5,takeO [59] o3=o5:=⟨_,rfl⟩;rw[ho5]at hv;have HO5X:=Lib.hid ho5;clear ho5;cases o5 with
     |none=>
      have hbad:=hv.bad;have hb1:(er5 !=0)=true:=by simpa using hbad
      have HB:=Lib.hid hbad;clear hv HD5 HV5 HO5 hbad;go_upto_region 13 with ((with_reducible refine st_ ?_);refine wp_put2 _ _ (M.k (i:=2) rfl) rfl rfl rfl rfl info_st rfl rfl ?_;intro w6 b6 g6;replace M:=M.rowAt (i:=2) rfl (by omega) (by simp<;>omega) rfl b6 g6;obtain ⟨f1,f2,f3,f4,f5⟩:=(M.k (i:=2) rfl).five);go_quiet (fail);go_wp2_with fail;refine bodyPost_ret (v:= .tuple #[.slice none 0 0,.int .i64 at5,.int .i64 er5]) (by simp[results,Tryz.results49,go_sem]) rfl ?_;rw[HT2.out,allO_bad HOX.out HO5X.out];exact ⟨⟨_,_,_,rfl,HB.out⟩,below_dn (q1.trans (M.bel.mono hz1)) _⟩
     |some r=>
      have he5:=hv.zero;subst he5;have HV9:=Lib.hid hv;clear hv;have HE:=Lib.hid (allO_ok (k:=j) (acc:=xs) HOX.out HO5X.out);have hz7:w1.heap.size+1≤w5.heap.size:=(M.k (i:=2) rfl).lt;go_wp2_with (first
       |((with_reducible refine st_ ?_);refine wp_put2 _ _ (M.k (i:=2) rfl) rfl rfl rfl rfl info_st rfl rfl ?_;intro w6 b6 g6;replace M:=M.rowAt (i:=2) rfl (by omega) (by simp<;>omega) rfl b6 g6;obtain ⟨f1,f2,f3,f4,f5⟩:=(M.k (i:=2) rfl).five;obtain ⟨x1,x2,x3,x4,x5,x6,x7,x8⟩:=eight_i (M.k (i:=0) rfl);have hz8:=Nat.le_trans hz7 g6.size;have ho6:=Lay.own_grown HO5.out g6 (fun g e=>by injection e with e;omega);have hD6:=Dt.grown _ HD5.out g6 (fun b hb e=>by injection e with e;have:=hb.1;omega);have hV6:=Dt.grown _ HV5.out g6 (fun b hb e=>by injection e with e;have:=hb.1;omega))
       |(at_builtin;refine Lay.wp_app (layI 28 50) _ _ w6 (w1.heap.size+1) _ xs x #[.int .i64 x.k,.string ⟨x.name.toArray⟩,.bool x.bool,.slice A3 x.dom.length n3,.int .i64 x.size,.bool x.out,.slice A6 x.vals.length n6,.int .i64 x.ask] rfl Tryz.underlying22 info_ritem rfl (by decide) (by decide) ho6 hz8 (by omega) rfl rfl (it_newd (Dt.mono _ (fun b hb=>⟨hb.1,Nat.lt_of_lt_of_le hb.2.1 (Nat.le_trans hz5 (Nat.le_trans hz6 g6.size)),hb.2.2⟩) hD6) (Dt.mono _ (fun b hb=>⟨hb.1,Nat.lt_of_lt_of_le hb.2.1 (Nat.le_trans hz5 (Nat.le_trans hz6 g6.size)),hb.2.2⟩) hV6)) rfl rfl rfl rfl ?_;intro v7 w7 ho7 hg7 hb7 _;have M7:=(M.sub (Ks':=[(w1.heap.size,133,#[.slice A tl.length c,.int .i64 (i5:Nat),.int .i64 s.size,.int .i64 at5,.int .i64 0])]) (Rs':=[]) (by simp) (by simp)).belowB hb7 (by omega) (by simp<;>omega);clear M f1 f2 f3 f4 f5 x1 x2 x3 x4 x5 x6 x7 x8 hD6 hV6 ho6))
      go_roundg (513-(xs.length+1))
      case measure=>omega
      case rel=>
       refine ⟨xs++[x],r,i5,at5,by simp,by simp;omega,?_,HV9,ho7,M7⟩;show _=_;rw[HT2.out,HE.out,show 512-(xs++[x]).length=j by rw[List.length_append,List.length_singleton];have:=HJ.out;omega]
 ·have HX:=Lib.hid (hX.trans (if_neg he));have h1:(er !=0)=true:=by simpa using he
  clear hX hfew;go_wp2_with fail;refine bodyPost_ret (v:= .tuple #[.slice none 0 0,.int .i64 p,.int .i64 er]) (by simp[results,Tryz.results49,go_sem]) rfl ?_;rw[HX.out];exact ⟨⟨_,_,_,rfl,he⟩,q1⟩
end Go.Proofs.YtpfhgkielakmoaaGreatDoor

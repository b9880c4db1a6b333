import Derived.Test.YtjlhjabgclflcaaGreatDoorCe
set_option maxHeartbeats 40000000
set_option maxRecDepth 100000
set_option linter.unusedSimpArgs false
set_option linter.unusedVariables false
namespace Go.Proofs.YtjlhjabgclflcaaGreatDoor
open Go.RowKit Num Go.Joins
def ReadR (w:World) (g:Nat) (o:Ot) (A3:Option Addr) (n3:Nat) (s:List UInt8) (e:Ending) (w':World):Prop:=
 (readT o s=none∧∃t,e= .returned (.tuple #[.string t,.bool false]))∨
 ∃v r A4 c4,readT o s=some (v,r)∧e= .returned (.tuple #[.string ⟨r.toArray⟩,.bool true])∧RngN v∧Blk w' g 56 #[.string ⟨o.name.toArray⟩,.bool o.bool,.bool o.arr,.slice A3 o.x.length n3,.slice A4 v.length c4]∧(layN 2).row.P (since w.heap.size w') w' (.slice A4 v.length c4) v
theorem cut_len (s t:List UInt8):(Lib.cut s t).1.length≤s.length∧(Lib.cut s t).2.1.length≤s.length:=by
 unfold Lib.cut;split
 ·simp;omega
 ·simp
theorem trim_len (s t:List UInt8):(Lib.trimPrefix s t).length≤s.length:=by
 unfold Lib.trimPrefix;split
 ·simp
 ·exact Nat.le_refl _
theorem splitK_small:∀(k:Nat) (s:List UInt8),∀t∈Lib.splitK [44,32] 0 k s,t.length≤s.length
 |0,s,t,h=>by
  have:t∈[s]:=h;rw[List.mem_singleton.1 this];exact Nat.le_refl _
 |k+1,s,t,h=>by
  unfold Lib.splitK at h;split at h
  ·rw[List.mem_singleton.1 h];exact Nat.le_refl _
  ·rcases List.mem_cons.1 h with rfl|h
   ·simp;omega
   ·have:=splitK_small k _ t h;simp at this;omega
theorem split_small {t s:List UInt8} (h:t∈Lib.split s [44,32]):t.length≤s.length:=splitK_small _ _ _ h
theorem drewN_below (w:World) (n:Nat):Below w.heap.size w (w.drewN n):=(Read.refl w).drewN n|>.below _
theorem rread_any (o:Ot) (A3:Option Addr) (n3:Nat) (g:Nat) (s:ByteArray) (hs:s.size≤8192) (w0 w:World) (hE0:EnvM w0) (hw0:Below w0.heap.size w0 w) (hg0:w0.heap.size≤g) (hb:Blk w g 56 #[.string ⟨o.name.toArray⟩,.bool o.bool,.bool o.arr,.slice A3 o.x.length n3,.slice none 0 0]) (hnm:o.name.length≤10000) (hx:o.x.length≤10000):Calls Tryz.prog 23 #[.pointer (some ⟨g,0,none⟩),.string s] w fun e w'=>ReadR w g o A3 n3 s.data.toList e w'∧Below g w w':=by
 have hE:=hE0.below hw0;have hFr:=Lib.hid (rframe_any o A3 n3 none 0 0 w hE.env hnm hx);have HCP:Hid (∀w1:World,Calls Tryz.prog 32 #[.string s,.string ⟨(headS o).toArray⟩] w1 fun e w2=>e= .returned (.tuple #[.string ⟨(Lib.trimPrefix s.data.toList (headS o)).toArray⟩,.bool (Lib.hasPrefix s.data.toList (headS o))])∧w2=w1):=fun w1=>Tryz.strings_CutPrefix s ⟨(headS o).toArray⟩ w1;have hsl:s.data.toList.length=s.size:=by simp
 have ht:=trim_len s.data.toList (headS o);have HN:=Lib.hid (@read_no1 o s.data.toList);have HR:=Lib.hid (@read_cut o s.data.toList);unfold ReadR;generalize readT o s.data.toList=R at*;generalize Lib.hasPrefix s.data.toList (headS o)=hp at*;generalize Lib.trimPrefix s.data.toList (headS o)=tp at*;have hc:=cut_len tp (tailS o);have HCut:Hid (∀w1:World,EnvM w1→Calls Tryz.prog 33 #[.string ⟨tp.toArray⟩,.string ⟨(tailS o).toArray⟩] w1 fun e w2=>e= .returned (.tuple #[.string ⟨(Lib.cut tp (tailS o)).1.toArray⟩,.string ⟨(Lib.cut tp (tailS o)).2.1.toArray⟩,.bool (Lib.cut tp (tailS o)).2.2])∧Below w1.heap.size w1 w2):=fun w1 h1=>by
  obtain ⟨m,hm⟩:=h1.len;refine (Tryz.strings_Cut ⟨tp.toArray⟩ ⟨(tailS o).toArray⟩ m w1 (by show tp.length<_;omega) hm).mono ?_;rintro e w2 ⟨rfl,n,rfl⟩;exact ⟨rfl,drewN_below w1 n⟩
 generalize Lib.cut tp (tailS o)=C at*;obtain ⟨line,bh,cb⟩:=C;dsimp only at hc HCut HR;have hll:(⟨line.toArray⟩:ByteArray).size≤8192:=by
  show line.length≤_;omega
 obtain ⟨nm,b,arr,xs⟩:=o;have HWN:=Lib.hid (fun (h:xs=[])=>words_nil (o:=⟨nm,b,arr,xs⟩) h);have HWS:=Lib.hid (@words_split ⟨nm,b,arr,xs⟩ line);obtain ⟨WB,hWB⟩:∃WB,Lib.splitB ⟨#[44,32]⟩ 0 (Lib.countB ⟨line.toArray⟩ ⟨#[44,32]⟩) ⟨line.toArray⟩=WB:=⟨_,rfl⟩;have hW1:=splitB_words ⟨line.toArray⟩;have hW2:=splitW_num ⟨line.toArray⟩;have hW3:=countB_small ⟨line.toArray⟩;rw[hWB]at hW1 hW2;have HSp:Hid (∀w1:World,EnvM w1→Calls Tryz.prog 34 #[.string ⟨line.toArray⟩,.string ⟨#[44,32]⟩] w1 fun e w2=>e= .returned (.slice (some ⟨w1.heap.size,0,none⟩) WB.length WB.length)∧w2=w1.alloc (.cells (WB.map Value.string).toArray 9)):=fun w1 h1=>by
  obtain ⟨m,hm⟩:=h1.len;have:=Tryz.strings_Split ⟨line.toArray⟩ ⟨#[44,32]⟩ m w1 (by omega) hm (by decide);rw[hWB]at this;rw[hW2];exact this
 unfold thV frameV at hFr;dsimp only at hFr;generalize (⟨(headS ⟨nm,b,arr,xs⟩).toArray⟩:ByteArray)=H at*;generalize (⟨(tailS ⟨nm,b,arr,xs⟩).toArray⟩:ByteArray)=T at*;have hls:(⟨line.toArray⟩:ByteArray).data.toList=line:=rfl;rw[hls]at hW1;have hnil:∀bb,((⟨line.toArray⟩:ByteArray).toList==[])=bb→(line==[])=bb:=fun bb h=>by rw[ByteArray.toList_eq]at h;exact h
 have hWBl:WB.length≤8193:=by omega
 have hWBs:∀t∈WB,t.size≤8192:=by
  intro t ht;have h1:t.data.toList∈Lib.split line [44,32]:=by
   rw[←hW1];exact List.mem_map_of_mem ht
  have h2:=split_small h1;have h3:t.data.toList.length=t.size:=by simp
  omega
 have HNil:=Lib.hid hnil;have HW1:=Lib.hid hW1;have HWl:=Lib.hid hWBl;have HWs:=Lib.hid hWBs;clear hWBl hWBs hnil hls hW1 hW2 hW3 hWB hsl ht hc hll hs;generalize (⟨line.toArray⟩:ByteArray)=L at*;generalize (⟨tp.toArray⟩:ByteArray)=TP at*;obtain ⟨c0,c1,c2,c3,c4⟩:=hb.five;go_enter Tryz.func23,Tryz.ntmps23;go_wp2_with fail;refine hFr.out.mono ?_;rintro e w1 ⟨rfl,q1⟩;go_wp2_with fail;refine (HCP.out _).mono ?_;rintro e w2 ⟨rfl,rfl⟩;clear c0 c1 c2 c3 c4;cases hp with
 |false=>
  go_wp2_with fail;refine bodyPost_ret (v:= .tuple #[.string ⟨#[]⟩,.bool false]) (by simp[results,Tryz.results23,go_sem]) rfl ?_;exact ⟨.inl ⟨HN.out (by trivial),_,rfl⟩,q1.mono (Nat.le_of_lt hb.lt)⟩
 |true=>
  go_wp2_with fail;refine (HCut.out _ (hE.below q1)).mono ?_;rintro e w3 ⟨rfl,q3⟩;have q4:=below_trans q1 q3;cases cb with
  |false=>
   go_wp2_with fail;refine bodyPost_ret (v:= .tuple #[.string ⟨#[]⟩,.bool false]) (by simp[results,Tryz.results23,go_sem]) rfl ?_;exact ⟨.inl ⟨HR.out (by trivial),_,rfl⟩,q4.mono (Nat.le_of_lt hb.lt)⟩
  |true=>
   go_wp2_with fail;refine (HSp.out _ (hE.below q4)).mono ?_;rintro e w4 ⟨rfl,rfl⟩;have q5:=below_trans q4 (below_alloc1 w3 (.cells (WB.map Value.string).toArray 9));have hG:=RdG.start (o:=⟨nm,b,arr,xs⟩) hb q5;have hW0:∀(j:Nat) (t:ByteArray),WB[j]? =some t→(w3.alloc (.cells (WB.map Value.string).toArray 9)).cell? ⟨w3.heap.size,0+j,none⟩=some (.string t):=fun j t h=>by
    rw[(Blk.new w3 _ _).cell (0+j),Nat.zero_add];simp[h]
   have hgs:w3.heap.size≠g:=by
    have:=hb.lt;have:=q4.size;omega
   have hsz4:w3.heap.size<(w3.alloc (.cells (WB.map Value.string).toArray 9)).heap.size:=by simp
   generalize w3.alloc (.cells (WB.map Value.string).toArray 9)=W4 at*;generalize w3.heap.size=gw at*;obtain ⟨t0,t1,t2,t3,t4,t5⟩:=hG.cells;go_upto_region 9 with fail;obtain ⟨bb,hbb⟩:∃bb,(decide (xs=[])&&(line==[]))=bb:=⟨_,rfl⟩;go_cut [53] (fun s53 wx=>s53= .bool bb∧wx=W4)
   case first=>
    by_cases hx0:xs=[]
    ·subst hx0;generalize hL:(L.toList==[])=lb;have:=HNil.out lb hL;rw[this]at hbb;have hbb2:lb=bb:=by
      rw[←hbb];rfl
     subst hbb2;clear this hbb;go_wp2_with fail;all_goals (go_meet;exact ⟨rfl,rfl⟩)
    ·have d1:((xs.length:Int)==0)=false:=by
      have:xs.length≠0:=fun h=>hx0 (List.length_eq_zero_iff.1 h);simp;exact hx0
     have hbb2:false=bb:=by
      rw[←hbb,decide_eq_false hx0];rfl
     subst hbb2;go_wp2_with fail;all_goals (go_meet;exact ⟨rfl,rfl⟩)
   case rest=>
    obtain ⟨rfl,rfl⟩:=hcut;have HR2:=Lib.hid (HR.out (by trivial));have HG:=Lib.hid hG;clear HR HN HCP HCut hFr HSp hG;go_upto_if 53 with fail;go_cut [12] (fun s12 wx=>∃(A:Option Addr) (WL:List ByteArray) (c:Nat),s12= .slice A WL.length c∧wx=wc∧wordsS ⟨nm,b,arr,xs⟩ line=WL.map (·.data.toList)∧WL.length≤8193∧(∀t∈WL,t.size≤8192)∧(WL≠[]→A=some ⟨gw,0,none⟩)∧∀(j:Nat) (t:ByteArray),WL[j]? =some t→wc.cell? ⟨gw,0+j,none⟩=some (.string t))
    case first=>
     cases bb with
     |true=>
      simp only[Bool.and_eq_true,decide_eq_true_eq,beq_iff_eq]at hbb;obtain ⟨rfl,rfl⟩:=hbb;have HWv:=Lib.hid (HWN.out rfl);go_wp2_with fail;go_meet;exact ⟨none,[],0,rfl,rfl,HWv.out,by simp,(by intro t ht;cases ht),(fun h=>absurd rfl h),(by intro j t h;cases h)⟩
     |false=>
      have HWv:Hid (wordsS ⟨nm,b,arr,xs⟩ line=WB.map (·.data.toList)):=by
       show _=_;rw[HW1.out];refine HWS.out fun h=> ?_;rw[h.1,h.2]at hbb;cases hbb
      clear hbb;go_wp2_with fail;go_meet;exact ⟨_,WB,_,rfl,rfl,HWv.out,HWl.out,HWs.out,(fun _=>rfl),hW0⟩
    case rest=>
     obtain ⟨A,WL,c,rfl,rfl,hw1,hw2,hw3,hw4,hw5⟩:=hcut;have hG0:=RdG.start (o:=⟨nm,b,arr,xs⟩) HG.out.b1 (Below.refl wc.heap.size wc);have HQ:=Lib.hid q5;have HE5:=Lib.hid (fun (w':World) (q:Below g wc w')=>(hE0.below (hw0.trans (((q5.mono (Nat.le_of_lt hb.lt)).trans q).mono hg0))).env);clear hW0 q5 HG t0 t1 t2 t3 t4 t5 hbb;rw[hw1]at HR2;have HW3:=Lib.hid hw3;clear hw1 hw3 HWN HWS HW1 HWl HWs;go_wp2_with fail;go_loopg [56] WL.length (fun k a wr=>∃(j:Nat) (v:List Int) (A4:Option Addr) (c4:Nat),k=WL.length-j∧j≤WL.length∧a= .int .i64 (j:Nat)∧mapW b ((WL.take j).map (·.data.toList))=some v∧RngN v∧RdG wc wr g ⟨nm,b,arr,xs⟩ A3 n3 A4 c4 v)
     case atStart=>exact ⟨0,[],none,0,rfl,Nat.zero_le _,rfl,rfl,(by intro n h;cases h),hG0⟩
     case round=>
      obtain ⟨j,v,A4,c4',hk,hj,rfl,hv,hrn,hG⟩:=hrel;obtain ⟨t0,t1,t2,t3,t4,t5⟩:=hG.cells;have HVL:Hid (v.length≤1000000):=by
       show _≤_;have hvl:=mapW_len hv;rw[List.length_map,List.length_take]at hvl;omega
      by_cases hlt:j<WL.length
      ·have d1:decide ((j:Int)<(WL.length:Int))=true:=decide_eq_true (by omega);obtain rfl:=hw4 (lt_ne hlt);have k1:wr.cell? ⟨gw,0+j,none⟩=some (.string WL[j]):=by
        rw[World.cell?_of_block (hG.rest gw hsz4 hgs)];exact hw5 j _ (List.getElem?_eq_getElem hlt)
       have k2:wr.cell? ⟨gw,j,none⟩=some (.string WL[j]):=by rw[←k1,Nat.zero_add]
       have hmem:=List.getElem_mem hlt;have htk:=List.take_succ_eq_append_getElem hlt;have HT:=Lib.hid htk;have HM:=Lib.hid hmem;have hts:=HW3.out _ hmem;clear htk hmem;generalize WL[j]=t at*;have HX:=Lib.hid (fun (w':World) (h:Env w')=>rval_any ⟨nm,b,arr,xs⟩ A3 n3 A4 v.length c4' t hts w' h);unfold thV ValR at HX;dsimp only at HX;have HV:=Lib.hid hv;have HRN:=Lib.hid hrn;have HEr:=Lib.hid (HE5.out _ hG.bel);have HGr:=Lib.hid hG;clear hv hrn hts hG;go_wp2_with fail;refine (HX.out _ HEr.out).mono ?_;rintro e w5 ⟨⟨n,bb2,rfl,hn⟩,q6⟩;have hG5:=HGr.out.below q6;clear t0 t1 t2 t3 t4 t5 k1 k2;rcases hn with ⟨rfl,hni,hnv⟩|⟨rfl,hnv⟩
       ·obtain ⟨t0,t1,t2,t3,t4,t5⟩:=hG5.cells;have HV2:Hid (mapW b ((WL.take (j+1)).map (·.data.toList))=some (v++[n])):=by
         show _=_;rw[HT.out,List.map_append,List.map_cons,List.map_nil,mapW_snoc,HV.out,hnv];rfl
        have HRN2:Hid (RngN (v++[n])):=by
         show RngN _;intro m hm;rcases List.mem_append.1 hm with hm|hm
         ·exact HRN.out m hm
         ·rw[List.mem_singleton.1 hm];exact hni
        obtain ⟨v2,hv2⟩:∃v2,v++[n]=v2:=⟨_,rfl⟩;have HS:=Lib.hid hv2;rw[hv2]at HV2 HRN2;clear hv2 hnv hni;have hlen:v.length≤1000000:=HVL.out;have hbs:=hG5.size;have ho5:=hG5.own;have HG5:=Lib.hid hG5;clear hG5;go_wp2_with (at_builtin;refine Lay.wp_app (layN 2) _ _ w5 wc.heap.size (.slice A4 v.length c4') v n #[.int .i64 n] (by first|rfl|simp) Tryz.underlying23 info_n64 rfl (by decide) (by decide) ho5 hbs hlen rfl rfl n_new rfl rfl rfl rfl ?_;intro v7 w7 ho7 hg7 hb7 hat7;have y1:=HG5.out.far w7 hg7;obtain ⟨_,_,_,_,y3⟩:=y1.five;have y4:=y1.frozen 4;rw[HS.out]at ho7;obtain ⟨A7,c7,rfl⟩:=Lay.own_len ho7);go_roundg (WL.length-(j+1))
        case measure=>omega
        case rel=>exact ⟨j+1,v2,A7,c7,rfl,by omega,by simp,HV2.out,HRN2.out,HG5.out.put hg7 hb7 ho7⟩
       ·have hN:R=none:=by
         rw[HR2.out,if_pos (by trivial),mapW_no (List.mem_map_of_mem HM.out) hnv];rfl
        have HNn:=Lib.hid hN;clear hN hnv;go_wp2_with fail;refine bodyPost_ret (v:= .tuple #[.string ⟨#[]⟩,.bool false]) (by simp[results,Tryz.results23,go_sem]) rfl ?_;exact ⟨.inl ⟨HNn.out,_,rfl⟩,(HQ.out.mono (Nat.le_of_lt hb.lt)).trans hG5.bel⟩
      ·have d1:decide ((j:Int)<(WL.length:Int))=false:=decide_eq_false (by omega);have e1:WL.take j=WL:=List.take_of_length_le (by omega);rw[e1]at hv;clear e1;have hP:R=if v.length=xs.length∧mayS ⟨nm,b,arr,xs⟩ v=true then some (v,bh) else none:=by
        rw[HR2.out,if_pos (by trivial),hv];rfl
       have HQs:Hid (w.heap.size≤wc.heap.size):=HQ.out.size;have HQg:Hid (Below g w wr):=(HQ.out.mono (Nat.le_of_lt hb.lt)).trans hG.bel;have HM:=Lib.hid (fun (w':World) (q:Below wr.heap.size wr w')=>rmay_any ⟨nm,b,arr,xs⟩ v A3 n3 A4 c4' w' (HE5.out w' (hG.bel.trans (q.mono (Nat.le_of_lt hG.b1.lt)))) hnm (Dt.below _ (Lay.own_row hG.own) q (Nat.le_refl _)));unfold thV at HM;dsimp only at HM;have M:=(Mem.start wr).addK hG.b1;have HRN:=Lib.hid hrn;have HP:=Lib.hid hP;have HK:Hid (∀w9:World,Below wr.heap.size wr w9→Blk w9 g 56 #[.string ⟨nm.toArray⟩,.bool b,.bool arr,.slice A3 xs.length n3,.slice A4 v.length c4']∧(layN 2).row.P (since w.heap.size w9) w9 (.slice A4 v.length c4') v∧Below g w w9):=fun w9 q=>
        ⟨hG.b1.below q (Nat.le_refl _),(layN 2).row.mono (fun k hk=>⟨Nat.le_trans HQs.out hk.1,hk.2⟩) (Lay.own_row (Lay.own_below hG.own q)),HQg.out.trans (q.mono (Nat.le_of_lt hG.b1.lt))⟩
       clear hv hG hrn HR2 HQ hP;by_cases hq:v.length=xs.length
       ·have d7:((v.length:Int)==(xs.length:Int))=true:=by rw[hq];simp
        have HEq:=Lib.hid hq;clear hq;generalize hmb:mayS ⟨nm,b,arr,xs⟩ v=mb at HM;have HMb:=Lib.hid hmb;clear hmb;go_upto_region 19 with fail;refine region_st (n:=21) (frame:= ?frame1) (fun jK=>[.val (.fix (.string ⟨bh.toArray⟩)),.val (.fix (.pointer (some ⟨g,0,none⟩))),.val (.fix (.pointer (some ⟨g,0,none⟩))),.val (.fix (.pointer (some ⟨g,4,none⟩))),.val (.fix (.slice A4 v.length c4')),.val (.fix (.int .i64 (v.length:Int))),.val (.fix (.pointer (some ⟨g,0,none⟩))),.val (.fix (.pointer (some ⟨g,0,none⟩))),.val (.fix (.pointer (some ⟨g,0,none⟩))),.val (.fix (.pointer (some ⟨g,3,none⟩))),.val (.fix (.slice A3 xs.length n3)),.val (.fix (.int .i64 (xs.length:Int))),.val (.fix (.bool true)),.val (.fix (.bool true)),.val (.fix (.pointer (some ⟨g,0,none⟩))),.val (.fix (.pointer (some ⟨g,0,none⟩))),.val (.fix (.agg #[.string ⟨nm.toArray⟩,.bool b,.bool arr,.slice A3 xs.length n3,.slice A4 v.length c4'])),.val (.fix (.bool mb)),.val (.fix (.bool mb)),.val (.fix (.string ⟨bh.toArray⟩)),.val (.fix (.bool mb))].getD jK .none) [] (by kernel_rfl) (by kernel_rfl) (by kernel_rfl) rfl M (fun _ h=>by cases h) (fun _ h=>by cases h) ?_ ?_ ?_
        case refine_1=>
         intro s;simp only[fr,Act.put,List.append_eq,List.cons_append,List.nil_append,List.setIfInBounds_toArray,List.set_cons_zero,List.set_cons_succ,Nat.reduceAdd];rfl
        case refine_2=>
         refine SC 0 1 rfl ?_ (SC 1 2 rfl ?_ (SC 2 3 rfl ?_ (SC 3 4 rfl ?_ (SC 4 5 rfl ?_ (SC 5 6 rfl ?_ (SC 6 7 rfl ?_ (SC 7 8 rfl ?_ (SC 8 9 rfl ?_ (SC 9 10 rfl ?_ (SC 10 11 rfl ?_ (SC 11 12 rfl ?_ (SC 12 13 rfl ?_ (SC 13 14 rfl ?_ (SC 14 15 rfl ?_ (SC 15 16 rfl ?_ (SC 16 17 rfl ?_ (SC 17 18 rfl ?_ (SC 18 19 rfl ?_ (SC 19 20 rfl ?_ (SC 20 21 rfl ?_ Steps.nil))))))))))))))))))));all_goals (intro L s w9 hN hU hi hS K hK;dsimp only at hK⊢;simp only[Act.put,List.setIfInBounds_toArray,List.set_cons_zero,List.set_cons_succ]at hK)
         ·go_simp;exact hK.out _ _ (hS.v0 rfl rfl rfl)
         ·go_simp;exact hK.out _ _ (hS.v0 rfl rfl rfl)
         ·have e1:=hS.fx 1 rfl rfl (hN.out 1 rfl);simp only[e1]at hK⊢;go_simp;exact hK.out _ _ (hS.v0 rfl rfl rfl)
         ·have e2:=hS.fx 2 rfl rfl (hN.out 2 rfl);simp only[e2]at hK⊢;go_simp;exact hK.out _ _ (hS.v0 rfl rfl rfl)
         ·have e3:=hS.fx 3 rfl rfl (hN.out 3 rfl);simp only[e3]at hK⊢;obtain ⟨u1,u2,u3,u4,u5⟩:=Blk.five (hS.mem.k (i:=0) rfl);go_simp;exact hK.out _ _ (hS.v0 rfl rfl rfl)
         ·have e4:=hS.fx 4 rfl rfl (hN.out 4 rfl);simp only[e4]at hK⊢;go_simp;exact hK.out _ _ (hS.v0 rfl rfl rfl)
         ·go_simp;exact hK.out _ _ (hS.v0 rfl rfl rfl)
         ·have e6:=hS.fx 6 rfl rfl (hN.out 6 rfl);simp only[e6]at hK⊢;go_simp;exact hK.out _ _ (hS.v0 rfl rfl rfl)
         ·have e7:=hS.fx 7 rfl rfl (hN.out 7 rfl);simp only[e7]at hK⊢;go_simp;exact hK.out _ _ (hS.v0 rfl rfl rfl)
         ·have e8:=hS.fx 8 rfl rfl (hN.out 8 rfl);simp only[e8]at hK⊢;go_simp;exact hK.out _ _ (hS.v0 rfl rfl rfl)
         ·have e9:=hS.fx 9 rfl rfl (hN.out 9 rfl);simp only[e9]at hK⊢;obtain ⟨u1,u2,u3,u4,u5⟩:=Blk.five (hS.mem.k (i:=0) rfl);go_simp;exact hK.out _ _ (hS.v0 rfl rfl rfl)
         ·have e10:=hS.fx 10 rfl rfl (hN.out 10 rfl);simp only[e10]at hK⊢;go_simp;exact hK.out _ _ (hS.v0 rfl rfl rfl)
         ·have e5:=hS.fx 5 rfl rfl (hN.out 5 rfl);simp only[e5]at hK⊢;have e11:=hS.fx 11 rfl rfl (hN.out 11 rfl);simp only[e11]at hK⊢;go_simp;exact hK.out _ _ (hS.v0 rfl rfl rfl)
         ·have e12:=hS.fx 12 rfl rfl (hN.out 12 rfl);simp only[e12]at hK⊢;go_simp;exact hK.out _ _ (hS.v0 rfl rfl rfl)
         ·have e13:=hS.fx 13 rfl rfl (hN.out 13 rfl);simp only[e13]at hK⊢;go_simp;exact hK.out _ _ (hS.v0 rfl rfl rfl)
         ·have e14:=hS.fx 14 rfl rfl (hN.out 14 rfl);simp only[e14]at hK⊢;have e13:=hS.fx 13 rfl rfl (hN.out 13 rfl);simp only[e13]at hK⊢;go_simp;exact hK.out _ _ (hS.v0 rfl rfl rfl)
         ·have e15:=hS.fx 15 rfl rfl (hN.out 15 rfl);simp only[e15]at hK⊢;have e13:=hS.fx 13 rfl rfl (hN.out 13 rfl);simp only[e13]at hK⊢;obtain ⟨u1,u2,u3,u4,u5⟩:=Blk.five (hS.mem.k (i:=0) rfl);go_simp;exact hK.out _ _ (hS.v0 rfl rfl rfl)
         ·have e16:=hS.fx 16 rfl rfl (hN.out 16 rfl);simp only[e16]at hK⊢;have e13:=hS.fx 13 rfl rfl (hN.out 13 rfl);simp only[e13]at hK⊢;go_simp;go_at_call 30;refine (HM.out _ hS.mem.bel).mono ?_;rintro e9 w10 ⟨rfl,q⟩;exact hK.out _ _ (hS.val rfl (noStore_of rfl) q rfl)
         ·have e13:=hS.fx 13 rfl rfl (hN.out 13 rfl);simp only[e13]at hK⊢;have e17:=hS.fx 17 rfl rfl (hN.out 17 rfl);simp only[e17]at hK⊢;go_simp;exact hK.out _ _ (hS.v0 rfl rfl rfl)
         ·have e0:=hS.fx 0 rfl rfl (hN.out 0 rfl);simp only[e0]at hK⊢;go_simp;exact hK.out _ _ (hS.v0 rfl rfl rfl)
         ·have e18:=hS.fx 18 rfl rfl (hN.out 18 rfl);simp only[e18]at hK⊢;go_simp;exact hK.out _ _ (hS.v0 rfl rfl rfl)
        intro L s w9 hall hS;have eS:s 19= .string ⟨bh.toArray⟩:=hS.val_at 19 rfl (by decide) (hall 19 (by decide));have eB:s 20= .bool mb:=hS.val_at 20 rfl (by decide) (hall 20 (by decide));obtain ⟨z1,z2,z3⟩:=HK.out _ hS.mem.bel;go_wp2;refine bodyPost_ret (v:= .tuple #[.string ⟨bh.toArray⟩,.bool mb]) (by simp[results,Tryz.results23,go_sem,eS,eB]) rfl ⟨?_,z3⟩;cases mb with
        |true=>exact .inr ⟨v,bh,by rw[HP.out,if_pos ⟨HEq.out,HMb.out⟩],rfl,HRN.out,A4,c4',z1,z2⟩
        |false=>exact .inl ⟨by rw[HP.out,if_neg (fun h=>by have:=h.2;rw[HMb.out]at this;cases this)],_,rfl⟩
       ·have d7:((v.length:Int)==(xs.length:Int))=false:=beq_false_of_ne (by omega);have HPn:Hid (R=none):=by
         show _=_;rw[HP.out,if_neg (fun h=>hq h.1)]
        clear hq HM;go_upto_region 19 with fail;refine region_st (n:=21) (frame:= ?frame2) (fun jK=>[.val (.fix (.string ⟨bh.toArray⟩)),.val (.fix (.pointer (some ⟨g,0,none⟩))),.val (.fix (.pointer (some ⟨g,0,none⟩))),.val (.fix (.pointer (some ⟨g,4,none⟩))),.val (.fix (.slice A4 v.length c4')),.val (.fix (.int .i64 (v.length:Int))),.val (.fix (.pointer (some ⟨g,0,none⟩))),.val (.fix (.pointer (some ⟨g,0,none⟩))),.val (.fix (.pointer (some ⟨g,0,none⟩))),.val (.fix (.pointer (some ⟨g,3,none⟩))),.val (.fix (.slice A3 xs.length n3)),.val (.fix (.int .i64 (xs.length:Int))),.val (.fix (.bool false)),.val (.fix (.bool false)),.none,.none,.none,.none,.val (.fix (.bool false)),.val (.fix (.string ⟨bh.toArray⟩)),.val (.fix (.bool false))].getD jK .none) [] (by kernel_rfl) (by kernel_rfl) (by kernel_rfl) rfl M (fun _ h=>by cases h) (fun _ h=>by cases h) ?_ ?_ ?_
        case refine_1=>
         intro s;simp only[fr,Act.put,List.append_eq,List.cons_append,List.nil_append,List.setIfInBounds_toArray,List.set_cons_zero,List.set_cons_succ,Nat.reduceAdd];rfl
        case refine_2=>
         refine SC 0 1 rfl ?_ (SC 1 2 rfl ?_ (SC 2 3 rfl ?_ (SC 3 4 rfl ?_ (SC 4 5 rfl ?_ (SC 5 6 rfl ?_ (SC 6 7 rfl ?_ (SC 7 8 rfl ?_ (SC 8 9 rfl ?_ (SC 9 10 rfl ?_ (SC 10 11 rfl ?_ (SC 11 12 rfl ?_ (SC 12 13 rfl ?_ (SC 13 14 rfl ?_ (SC 14 15 rfl ?_ (SC 15 16 rfl ?_ (SC 16 17 rfl ?_ (SC 17 18 rfl ?_ (SC 18 19 rfl ?_ (SC 19 20 rfl ?_ (SC 20 21 rfl ?_ Steps.nil))))))))))))))))))));all_goals (intro L s w9 hN hU hi hS K hK;dsimp only at hK⊢;simp only[Act.put,List.setIfInBounds_toArray,List.set_cons_zero,List.set_cons_succ]at hK)
         ·go_simp;exact hK.out _ _ (hS.v0 rfl rfl rfl)
         ·go_simp;exact hK.out _ _ (hS.v0 rfl rfl rfl)
         ·have e1:=hS.fx 1 rfl rfl (hN.out 1 rfl);simp only[e1]at hK⊢;go_simp;exact hK.out _ _ (hS.v0 rfl rfl rfl)
         ·have e2:=hS.fx 2 rfl rfl (hN.out 2 rfl);simp only[e2]at hK⊢;go_simp;exact hK.out _ _ (hS.v0 rfl rfl rfl)
         ·have e3:=hS.fx 3 rfl rfl (hN.out 3 rfl);simp only[e3]at hK⊢;obtain ⟨u1,u2,u3,u4,u5⟩:=Blk.five (hS.mem.k (i:=0) rfl);go_simp;exact hK.out _ _ (hS.v0 rfl rfl rfl)
         ·have e4:=hS.fx 4 rfl rfl (hN.out 4 rfl);simp only[e4]at hK⊢;go_simp;exact hK.out _ _ (hS.v0 rfl rfl rfl)
         ·go_simp;exact hK.out _ _ (hS.v0 rfl rfl rfl)
         ·have e6:=hS.fx 6 rfl rfl (hN.out 6 rfl);simp only[e6]at hK⊢;go_simp;exact hK.out _ _ (hS.v0 rfl rfl rfl)
         ·have e7:=hS.fx 7 rfl rfl (hN.out 7 rfl);simp only[e7]at hK⊢;go_simp;exact hK.out _ _ (hS.v0 rfl rfl rfl)
         ·have e8:=hS.fx 8 rfl rfl (hN.out 8 rfl);simp only[e8]at hK⊢;go_simp;exact hK.out _ _ (hS.v0 rfl rfl rfl)
         ·have e9:=hS.fx 9 rfl rfl (hN.out 9 rfl);simp only[e9]at hK⊢;obtain ⟨u1,u2,u3,u4,u5⟩:=Blk.five (hS.mem.k (i:=0) rfl);go_simp;exact hK.out _ _ (hS.v0 rfl rfl rfl)
         ·have e10:=hS.fx 10 rfl rfl (hN.out 10 rfl);simp only[e10]at hK⊢;go_simp;exact hK.out _ _ (hS.v0 rfl rfl rfl)
         ·have e5:=hS.fx 5 rfl rfl (hN.out 5 rfl);simp only[e5]at hK⊢;have e11:=hS.fx 11 rfl rfl (hN.out 11 rfl);simp only[e11]at hK⊢;go_simp;exact hK.out _ _ (hS.v0 rfl rfl rfl)
         ·have e12:=hS.fx 12 rfl rfl (hN.out 12 rfl);simp only[e12]at hK⊢;go_simp;exact hK.out _ _ (hS.v0 rfl rfl rfl)
         ·have e13:=hS.fx 13 rfl rfl (hN.out 13 rfl);simp only[e13]at hK⊢;go_simp;exact hK.out undef _ (hS.k0 rfl rfl)
         ·have e13:=hS.fx 13 rfl rfl (hN.out 13 rfl);simp only[e13]at hK⊢;go_simp;exact hK.out undef _ (hS.k0 rfl rfl)
         ·have e13:=hS.fx 13 rfl rfl (hN.out 13 rfl);simp only[e13]at hK⊢;go_simp;exact hK.out undef _ (hS.k0 rfl rfl)
         ·have e13:=hS.fx 13 rfl rfl (hN.out 13 rfl);simp only[e13]at hK⊢;go_simp;exact hK.out undef _ (hS.k0 rfl rfl)
         ·have e13:=hS.fx 13 rfl rfl (hN.out 13 rfl);simp only[e13]at hK⊢;go_simp;exact hK.out _ _ (hS.v0 rfl rfl rfl)
         ·have e0:=hS.fx 0 rfl rfl (hN.out 0 rfl);simp only[e0]at hK⊢;go_simp;exact hK.out _ _ (hS.v0 rfl rfl rfl)
         ·have e18:=hS.fx 18 rfl rfl (hN.out 18 rfl);simp only[e18]at hK⊢;go_simp;exact hK.out _ _ (hS.v0 rfl rfl rfl)
        intro L s w9 hall hS;have eS:s 19= .string ⟨bh.toArray⟩:=hS.val_at 19 rfl (by decide) (hall 19 (by decide));have eB:s 20= .bool false:=hS.val_at 20 rfl (by decide) (hall 20 (by decide));obtain ⟨z1,z2,z3⟩:=HK.out _ hS.mem.bel;go_wp2;refine bodyPost_ret (v:= .tuple #[.string ⟨bh.toArray⟩,.bool false]) (by simp[results,Tryz.results23,go_sem,eS,eB]) rfl ⟨.inl ⟨HPn.out,_,rfl⟩,z3⟩
end Go.Proofs.YtjlhjabgclflcaaGreatDoor

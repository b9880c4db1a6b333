import Derived.Test.YtecfcjdgmpopjaaGreatHh
import Derived.Deep.MidRow
set_option maxHeartbeats 40000000
set_option maxRecDepth 100000
set_option linter.unusedSimpArgs false
set_option linter.unusedVariables false
namespace Go.Proofs.YtecfcjdgmpopjaaGreat
open Go.RowKit Num
theorem pgsz_right {p:Pg}(h:rightPg p=true):PgSz p:=by
 have k:=ok_of_right h;have k1:=k.n;have k2:=k.a;exact⟨by omega,by rw[k.hi];omega,by rw[k.c];omega,by rw[k.b];omega,by omega,fun i hi=>by rw[k.rows i hi];omega⟩
theorem there4 {w:World}{g o:Nat}{t:TypeId}{cs:Array Value}(hb:Blk w g t cs)(hn:cs.toList.all nu=true)(h:o+4≤cs.size):w.there g o 4:=(hb.box hn).there fun j hj=>by
 rw[hb.cell (o+j),Array.getElem?_eq_getElem (by omega)];rfl
theorem filter_bad {w:World}{a:Mp}{m:Md}{D:Option Addr}{Dc:Nat}{ds:List Adr}{d:List (List (Int×Int))}{A:Option Addr}{c:Nat}{l:List Fr}{limit:Int}(h:MdAt w a m)(hd:DsAt w D ds d)(hz:MdSz m)(hzd:MdSz {m with doms:=d})(hy:GRow w A l)(hs:l.length≤1000000)(hbad:(fitM m d&&(decide (-1099511627776≤limit)&&(decide (limit≤1099511627776)&&numbersB (ofP m d) l)))=false):Calls Tryz.prog 17 #[.agg (mdC a m),.slice D d.length Dc,.slice A l.length c,.int .i64 limit] w fun e w'=>e= .returned (.tuple #[.slice none 0 0,.int .i64 2])∧Below w.heap.size w w':=by
 have M:=(Mem.start w).new 25 (mdC a m);obtain⟨m0,m1,m2,m3⟩:=(M.k (i:=0) rfl).four;have HQ:=ZH M.bel;cases hf:fitM m d with
 |false=>
  have HO:=ZH (of_bad (Dc:=Dc) (h.below M.bel) (hd.below M.bel) hz hzd hf);clear h hd hz hzd hf hy hbad M;go_enter Tryz.func17,Tryz.ntmps17;go_wp2_with fail;refine HO.out.mono ?_;rintro e w1 ⟨rfl,q1⟩;have M1:=(Mem.start w1).new 31 z5P;have HQ1:=ZH (bT HQ.out q1);clear q1 m0 m1 m2 m3;go_wp2_with ((with_reducible refine st_ ?_);refine wP2 _ _ (M1.k (i:=0) rfl) rfl rfl rfl rfl info_pg5 rfl rfl ?_;intro w5 b5 g5';replace M1:=M1.row ZL (by simp) rfl b5 g5');have HQ2:=ZH (bT HQ1.out M1.bel);exact bodyPost_ret (v:= .tuple #[.slice none 0 0,.int .i64 2]) (by simp[results,Tryz.results17,go_sem]) rfl ⟨rfl,HQ2.out⟩
 |true=>
  rw[hf,Bool.true_and]at hbad;have HO:=ZH (of_good (Dc:=Dc) (h.below M.bel) (hd.below M.bel) hz hzd hf);have hr:=ofP_right hf;have HY:=ZH (fun(w':World)(q:Below w.heap.size w w')=>hy.below q);obtain⟨P,hP⟩:∃P,ofP m d=P:=⟨_,rfl⟩;rw[hP]at HO hbad hr;have HBAD:=ZH hbad;have HSZ:=ZH (pgsz_right hr);clear h hd hz hzd hf hy hP hbad M;by_cases l1:limit< -1099511627776
  ·have d1:decide (limit< -1099511627776)=true:=dT l1;go_enter Tryz.func17,Tryz.ntmps17;go_wp2_with fail;refine HO.out.mono ?_;rintro e w1 ⟨q1,mm,rfl,hpg⟩;have M1:=(Mem.start w1).new 31 z5P;have HQ1:=ZH (bT HQ.out q1);clear q1 m0 m1 m2 m3 hpg;go_wp2_with ((with_reducible refine st_ ?_);refine wP2 _ _ (M1.k (i:=0) rfl) rfl rfl rfl rfl info_pg5 rfl rfl ?_;intro w5 b5 g5';replace M1:=M1.row ZL (by simp) rfl b5 g5');have HQ2:=ZH (bT HQ1.out M1.bel);exact bodyPost_ret (v:= .tuple #[.slice none 0 0,.int .i64 2]) (by simp[results,Tryz.results17,go_sem]) rfl ⟨rfl,HQ2.out⟩
  ·have d1:decide (limit< -1099511627776)=false:=dF l1;by_cases l2:1099511627776<limit
   ·have d2:decide (1099511627776<limit)=true:=dT l2;go_enter Tryz.func17,Tryz.ntmps17;go_wp2_with fail;refine HO.out.mono ?_;rintro e w1 ⟨q1,mm,rfl,hpg⟩;have M1:=(Mem.start w1).new 31 z5P;have HQ1:=ZH (bT HQ.out q1);clear q1 m0 m1 m2 m3 hpg;go_wp2_with ((with_reducible refine st_ ?_);refine wP2 _ _ (M1.k (i:=0) rfl) rfl rfl rfl rfl info_pg5 rfl rfl ?_;intro w5 b5 g5';replace M1:=M1.row ZL (by simp) rfl b5 g5');have HQ2:=ZH (bT HQ1.out M1.bel);exact bodyPost_ret (v:= .tuple #[.slice none 0 0,.int .i64 2]) (by simp[results,Tryz.results17,go_sem]) rfl ⟨rfl,HQ2.out⟩
   ·have d2:decide (1099511627776<limit)=false:=dF l2;have HNB:Hid (numbersB P l=false):=by
     have:=HBAD.out;rw[dT (by omega),dT (by omega)]at this;exact this
    clear HBAD;go_enter Tryz.func17,Tryz.ntmps17;go_wp2_with fail;refine HO.out.mono ?_;rintro e w1 ⟨q1,mm,rfl,hpg⟩;have M1:=(Mem.start w1).new 31 z5P;have HQ1:=ZH (bT HQ.out q1);have HPG:=ZH hpg;clear q1 m0 m1 m2 m3 hpg;go_upto_region 4 with ((with_reducible refine st_ ?_);refine wP2 _ _ (M1.k (i:=0) rfl) rfl rfl rfl rfl info_pg5 rfl rfl ?_;intro w5 b5 g5';replace M1:=M1.row ZL (by simp) rfl b5 g5');have HQ2:=ZH (bT HQ1.out M1.bel);obtain⟨f0,f1,f2,f3,f4⟩:=(M1.k (i:=0) rfl).fiveP;have HBB:=ZH (bound_bad (c:=c) (HPG.out.below M1.bel) HSZ.out (HY.out _ HQ2.out) hs (fun e=>by rw[HNB.out]at e;cases e.2));clear b5 g5' M1;go_wp2_with fail;refine HBB.out.mono ?_;rintro e w6 ⟨rfl,q6⟩;have M2:=(Mem.start w6).new 72 z4;have HQ6:=ZH (bT HQ2.out q6);clear q6 f0 f1 f2 f3 f4;go_wp2_with ((with_reducible refine st_ ?_);refine wP2 _ _ (M2.k (i:=0) rfl) rfl rfl rfl rfl info_rat rfl rfl ?_;intro w7 b7 g7;replace M2:=M2.row ZL (by simp) rfl b7 g7);have HQ7:=ZH (bT HQ6.out M2.bel);exact bodyPost_ret (v:= .tuple #[.slice none 0 0,.int .i64 2]) (by simp[results,Tryz.results17,go_sem]) rfl ⟨rfl,HQ7.out⟩
def tellF (o:Option (List (List (Int×Int)))):List (List (Int×Int))×Int:=match o with
 |none=>([],3)
 |some out=>if emptyB out then([],12) else(out,0)
def FilP (R:List (List (Int×Int))×Int)(w:World)(e:Ending)(w':World):Prop:=Below w.heap.size w w'∧∃B cc ds',e= .returned (.tuple #[.slice B R.1.length cc,.int .i64 R.2])∧DsAt w' B ds' R.1
theorem FilP.none {w w':World}{e:Ending}{R:List (List (Int×Int))×Int}{x:Int}(hR:R=([],x))(he:e= .returned (.tuple #[.slice none 0 0,.int .i64 x]))(q:Below w.heap.size w w'):FilP R w e w':=by
 subst hR;exact⟨q,Option.none,0,[],he,fun i hi=>absurd hi (Nat.not_lt_zero _),fun i hi=>absurd hi (Nat.not_lt_zero _)⟩
theorem filter_good {w:World}{a:Mp}{m:Md}{D:Option Addr}{Dc:Nat}{ds:List Adr}{d:List (List (Int×Int))}{A:Option Addr}{c n:Nat}{qs:List Rat}{limit:Int}(h:MdAt w a m)(hd:DsAt w D ds d)(hz:MdSz m)(hzd:MdSz {m with doms:=d})(hcap:∀i,i<d.length→(d.getD i []).length≤(ds.getD i ad0).2)(hy:GRow w A (qs.map frq))(hfew:∀q∈qs,Few q)(hn:n=qs.length)(hf:fitM m d=true)(hlo: -1099511627776≤limit)(hhi:limit≤1099511627776)(hnb:numbersB (ofP m d) (qs.map frq)=true):Calls Tryz.prog 17 #[.agg (mdC a m),.slice D d.length Dc,.slice A n c,.int .i64 limit] w fun e w'=>FilP (filterM m d qs true limit) w e w':=by
 have M:=(Mem.start w).new 25 (mdC a m);obtain⟨m0,m1,m2,m3⟩:=(M.k (i:=0) rfl).four;have HQ:=ZH M.bel;have HO:=ZH (of_good (Dc:=Dc) (h.below M.bel) (hd.below M.bel) hz hzd hf);have hr:=ofP_right hf;have hok:=ok_of_right hr;have HR:=ZH hr;have HD:=ZH hd;have HCAP:=ZH hcap;have HY:=ZH (fun(w':World)(q:Below w.heap.size w w')=>hy.below q);have hyl:qs.length=(ofP m d).a.length:=by
  have h1:=hnb;unfold numbersB at h1;rw[Bool.and_eq_true,decide_eq_true_eq,List.length_map]at h1;exact h1.1
 have hset:∀x∈d,setB x=true∧x.length≤1000:=fun x hx=>by
  have h1:=(fit_parts hf).2.2.2.1 x hx;unfold domB at h1;rw[Bool.and_eq_true]at h1;exact⟨h1.1,hzd.ds x hx⟩
 have HSET:=ZH hset;have hdl:(ofP m d).lo.length=d.length:=by
  have R:=Rwp.cons m.cons (Rwp.start m d) fun c hc=>may_in ((fit_parts hf).2.2.2.2.1 c hc);have e1:(ofP m d).lo=d.map loD:=R.lo;rw[e1,List.length_map]
 have hd64:=(fit_parts hf).2.1;obtain⟨R,hRR⟩:∃R,filterM m d qs true limit=R:=⟨_,rfl⟩;have HRR:Hid (R=match leastP (ofP m d) qs (some (ofP m d).c) with
  |none=>([],3)
  |some b=>match addO ((limit:Int):Rat) (-b) with
   |none=>([],3)
   |some room=>if room<0 then([],12) else match cutsF (decide (limit=1099511627776)) (ofP m d) qs room 0 d with
    |none=>([],3)
    |some out=>if emptyB out then([],12) else(out,0)):=by
  show _=_
  rw[←hRR]
  unfold filterM
  rw[hf,dT hlo,dT hhi,show(true&&(true&&(true&&true)))=true from rfl,if_pos rfl]
  cases leastP (ofP m d) qs (some (ofP m d).c) with
  |none=>rfl
  |some b=>
   dsimp only
   cases addO ((limit:Int):Rat) (-b) with
   |none=>rfl
   |some room=>
    dsimp only
    rw[cutsF_eq]
    cases cutsF (decide (limit=1099511627776)) (ofP m d) qs room 0 d<;>rfl
 rw[hRR];have HNN:=ZH hn;have HNB:=ZH hnb;have HFEW:=ZH hfew;have HSZ:=ZH (pgsz_right hr);have HLY:=ZH hyl;have HDL:=ZH hdl;generalize ofP m d=P at*;have d1:decide (limit< -1099511627776)=false:=dF (by omega);have d2:decide (1099511627776<limit)=false:=dF (by omega);clear h hd hz hzd hf hy hnb hfew hr hRR hyl hdl hset hcap M hn hok;go_enter Tryz.func17,Tryz.ntmps17;go_wp2_with fail;refine HO.out.mono ?_;rintro e w1 ⟨q1,mm,rfl,hpg⟩;have M1:=(Mem.start w1).new 31 z5P;have HQ1:=ZH (bT HQ.out q1);have HPG:=ZH hpg;clear q1 m0 m1 m2 m3 hpg HO;go_upto_region 4 with ((with_reducible refine st_ ?_);refine wP2 _ _ (M1.k (i:=0) rfl) rfl rfl rfl rfl info_pg5 rfl rfl ?_;intro w5 b5 g5';replace M1:=M1.row ZL (by simp) rfl b5 g5');have HQ2:=ZH M1.bel;have HK5:=ZH (M1.k (i:=0) rfl);obtain⟨f0,f1,f2,f3,f4⟩:=(M1.k (i:=0) rfl).fiveP;have HBB:=ZH (bound_good (c:=c) (n:=n) (HPG.out.below M1.bel) HSZ.out (HY.out _ (bT HQ1.out M1.bel)) HFEW.out HNN.out HR.out HNB.out);clear b5 g5' M1;go_wp2_with fail;refine HBB.out.mono ?_;rintro e w6 ⟨q6,⟨bb,A3,c3,B3,d3,hob,rfl,hqb⟩|⟨hob,rfl⟩⟩;rotate_left
 ·have HE:Hid (R=([],3)):=HRR.out.trans (by rw[hob]);have M2:=(Mem.start w6).new 72 z4;have HQ6:=ZH (bT HQ1.out (bT HQ2.out q6));clear q6 f0 f1 f2 f3 f4 hob;go_wp2_with ((with_reducible refine st_ ?_);refine wP2 _ _ (M2.k (i:=0) rfl) rfl rfl rfl rfl info_rat rfl rfl ?_;intro w7 b7 g7;replace M2:=M2.row ZL (by simp) rfl b7 g7);have HQ7:=ZH (bT HQ6.out M2.bel);exact bodyPost_ret (v:= .tuple #[.slice none 0 0,.int .i64 3]) (by simp[results,Tryz.results17,go_sem]) rfl (FilP.none HE.out rfl HQ7.out)
 ·have HE1:Hid (R=match addO ((limit:Int):Rat) (-bb) with
   |none=>([],3)
   |some room=>if room<0 then([],12) else match cutsF (decide (limit=1099511627776)) P qs room 0 d with
    |none=>([],3)
    |some out=>if emptyB out then([],12) else(out,0)):=HRR.out.trans (by rw[hob])
  have M2:=(Mem.start w6).new 72 z4;have HQB:=ZH hqb;have hsz6:=q6.size;have HQ6:=ZH (bT HQ2.out q6);have HK6:=ZH (HK5.out.below q6 ZL);obtain⟨f0,f1,f2,f3,f4⟩:=(HK6.out.below (bA1 w6 (.cells z4 72)) ZL).fiveP;clear q6 hob hqb HRR HBB;go_upto_region 7 with ((with_reducible refine st_ ?_);refine wP2 _ _ (M2.k (i:=0) rfl) rfl rfl rfl rfl info_rat rfl rfl ?_;intro w7 b7 g7;have HQB7:=ZH ((HQB.out.below (bA1 _ _)).boxed ((M2.k (i:=0) rfl).box rfl) g7);replace M2:=M2.row ZL (by simp) rfl b7 g7);have HQ7:=ZH (bT HQ6.out M2.bel);have HK7:=ZH (M2.k (i:=0) rfl);have HK5':=ZH (HK6.out.below M2.bel ZL);obtain⟨f0,f1,f2,f3,f4⟩:=HK5'.out.fiveP;generalize hk6:w6.heap.size=k6 at*;clear b7 g7 M2 hk6 HK6;have hk7:=HK7.out.lt;have hw1:=HQ7.out.size;go_upto_region 8 with fail;have hb8:Blk (w7.alloc (.cells (flG mm P A n c (.bool false) (.slice none 0 0) (.bool false) (.slice none 0 0) false) tyFl)) w7.heap.size tyFl (flG mm P A n c (.bool false) (.slice none 0 0) (.bool false) (.slice none 0 0) false):=Blk.new _ _ _;have HB8:=ZH hb8;have hq8:=bA1 w7 (.cells (flG mm P A n c (.bool false) (.slice none 0 0) (.bool false) (.slice none 0 0) false) tyFl);have HQ8:=ZH (bT HQ7.out hq8);have HK8:=ZH (HK7.out.below hq8 ZL);have HQB8:=ZH (HQB7.out.below hq8);have hs8:=hq8.size;have hgf:w7.heap.size<(w7.alloc (.cells (flG mm P A n c (.bool false) (.slice none 0 0) (.bool false) (.slice none 0 0) false) tyFl)).heap.size:=hb8.lt;obtain⟨W8,hW8⟩:∃W,W=w7.alloc (.cells (flG mm P A n c (.bool false) (.slice none 0 0) (.bool false) (.slice none 0 0) false) tyFl):=⟨_,rfl⟩;rw[←hW8]at HB8 HQ8 HK8 HQB8 hs8 hgf⊢;generalize hg7:w7.heap.size=g at*;have n6:k6≠g:=by omega
  obtain⟨x0,x1,x2,x3⟩:=HK8.out.four;clear hb8 hq8 hW8 hg7 HK7 HQB7 HK5' f0 f1 f2 f3 f4;have hlim: -9223372036854775808≤limit∧limit≤9223372036854775807:=by omega
  refine region_gen0 (n:=17) (frame:= ?frame1) (fun L s w'=>Vs [oP g 0,oP g 0,oI limit,none,oP g 0,oF (qv bb A3 c3 B3 d3),none,none,none,none,none,none,none,none,oP g 0,oP g 6,none] L s∧(L 7=true→s 7=exv 0 (s 6))∧(L 8=true→s 8=exv 1 (s 6))∧(L 11=true→s 11=exv 0 (s 10))∧(L 12=true→s 12=exv 1 (s 10))∧(L 3=false→(FSt g W8 w'∧Blk w' g tyFl (flG mm P A n c (.bool false) (.slice none 0 0) (.bool false) (.slice none 0 0) false)))∧(L 3=true→L 6=false→(FSt g W8 w'∧(∃A4 c4 B4 d4,s 3=qv (limit:Rat) A4 c4 B4 d4∧QR w' A4 c4 B4 d4 (limit:Rat))∧Blk w' g tyFl (flG mm P A n c (.bool false) (.slice none 0 0) (.bool false) (.slice none 0 0) false)))∧(L 6=true→L 9=false→(FSt g W8 w'∧(∃A4 c4 B4 d4,s 3=qv (limit:Rat) A4 c4 B4 d4∧QR w' A4 c4 B4 d4 (limit:Rat))∧∃n3 A5 l3 c5 m3 B5 k3 d5 x3,s 6= .tuple #[rv n3 A5 l3 c5 m3 B5 k3 d5,.int .i64 x3]∧ToldQ w' (some (-bb)) n3 A5 l3 c5 m3 B5 k3 d5 x3∧Blk w' g tyFl (flG mm P A n c (.bool false) (.slice none 0 0) (.bool false) (.slice none 0 0) false)))∧(L 9=true→L 10=false→(FSt g W8 w'∧(∃A4 c4 B4 d4,s 3=qv (limit:Rat) A4 c4 B4 d4∧QR w' A4 c4 B4 d4 (limit:Rat))∧(∃A4 c4 B4 d4,s 9=qv (-bb) A4 c4 B4 d4∧QR w' A4 c4 B4 d4 (-bb))∧Blk w' g tyFl (flG mm P A n c (.bool false) (.slice none 0 0) (.bool false) (.slice none 0 0) false)))∧(L 10=true→L 13=false→(FSt g W8 w'∧∃n3 A5 l3 c5 m3 B5 k3 d5 x3,s 10= .tuple #[rv n3 A5 l3 c5 m3 B5 k3 d5,.int .i64 x3]∧ToldQ w' (addO (limit:Rat) (-bb)) n3 A5 l3 c5 m3 B5 k3 d5 x3∧Blk w' g tyFl (flG mm P A n c (.bool false) (.slice none 0 0) (.bool false) (.slice none 0 0) false)))∧(L 13=true→L 16=false→(FSt g W8 w'∧∃r4 A4 c4 B4 d4 b4,s 13=qv r4 A4 c4 B4 d4∧QR w' A4 c4 B4 d4 r4∧Blk w' g tyFl (flG mm P A n c (.bool false) (.slice none 0 0) (.bool false) (.slice none 0 0) b4)∧(addO (limit:Rat) (-bb)=some r4∧b4=false∨addO (limit:Rat) (-bb)=none∧b4=true)))∧(L 16=true→(Stp (fun k=>k=g) W8 w'∧∃r4 A4 c4 B4 d4 b4,QR w' A4 c4 B4 d4 r4∧Blk w' g tyFl (flC mm P A n c r4 A4 c4 B4 d4 b4)∧(addO (limit:Rat) (-bb)=some r4∧b4=false∨addO (limit:Rat) (-bb)=none∧b4=true)))) (by kernel_rfl) (by kernel_rfl) (by kernel_rfl) rfl ?_ ?_ ?_ ?_
  case refine_1=>exact⟨fun _ _ _ h=>no_f h,fun h=>no_f h,fun h=>no_f h,fun h=>no_f h,fun h=>no_f h,fun _=>⟨FSt.of ((Read.refl _).drew.below _),HB8.out.below ((Read.refl _).drew.below _) ZL⟩,fun h=>no_f h,fun h=>no_f h,fun h=>no_f h,fun h=>no_f h,fun h=>no_f h,fun h=>no_f h⟩
  case refine_2=>
   intro s;simp only[fr,Act.put,zA,zB,zC,zD,zE,zF,Nat.reduceAdd];rfl
  case refine_3=>
   iterate 17 (refine SN ?_ ?_;rotate_left)
   exact Steps.nil;all_goals (intro L s w9 hN hU hi hC hS K hK;dsimp only at hK⊢;simp only[Act.put,zD,zE,zF]at hK;obtain⟨hV,h_7,h_8,h_11,h_12,c_0,c_1,c_2,c_3,c_4,c_5,c_6⟩:=hS;refine ite_of rfl ?_)
   ·go_simp;exact hK.out _ _ ⟨hV.put 0,h_7,h_8,h_11,h_12,c_0,c_1,c_2,c_3,c_4,c_5,c_6⟩
   ·go_simp;exact hK.out _ _ ⟨hV.put 1,h_7,h_8,h_11,h_12,c_0,c_1,c_2,c_3,c_4,c_5,c_6⟩
   ·go_simp;exact hK.out _ _ ⟨hV.put 2,h_7,h_8,h_11,h_12,c_0,c_1,c_2,c_3,c_4,c_5,c_6⟩
   ·rw[hV.at 2 (hN.out 2 rfl)]at hK⊢;have hP:=c_0 hi.out;go_simp;go_at_call 26;refine(pof_any hlim.1 hlim.2).mono ?_;rintro e w10 ⟨p2,A4,c4,B4,d4,rfl,hq4⟩;exact hK.out _ _ ⟨hV.eff 3,h_7,h_8,h_11,h_12,fun h=>no_t h,fun _ _=>⟨hP.1.trans (FSt.of p2),⟨A4,c4,B4,d4,rfl,hq4⟩,hP.2.below p2 ZL⟩,fun h=>no_f (Eq.trans (Eq.symm (hU.out 6 _ rfl rfl)) h),fun h=>no_f (Eq.trans (Eq.symm (Shut.no hC 9 6 rfl rfl (hU.out 6 _ rfl rfl))) h),fun h=>no_f (Eq.trans (Eq.symm (hU.out 10 _ rfl rfl)) h),fun h=>no_f (Eq.trans (Eq.symm (Shut.no hC 13 10 rfl rfl (hU.out 10 _ rfl rfl))) h),fun h=>no_f (Eq.trans (Eq.symm (Shut.no hC 16 13 rfl rfl (Shut.no hC 13 10 rfl rfl (hU.out 10 _ rfl rfl)))) h)⟩
   ·go_simp;exact hK.out _ _ ⟨hV.put 4,h_7,h_8,h_11,h_12,c_0,c_1,c_2,c_3,c_4,c_5,c_6⟩
   ·have hE:FSt g W8 w9:=(match hL0:L 3 with|false=>(c_0 hL0).1|true=>(c_1 hL0 (hU.out 6 _ rfl rfl)).1);have u0:=hE.cell x0 (fun e=>absurd e n6);have u1:=hE.cell x1 (fun e=>absurd e n6);have u2:=hE.cell x2 (fun e=>absurd e n6);have u3:=hE.cell x3 (fun e=>absurd e n6);go_simp;exact hK.out _ _ ⟨hV.put 5,h_7,h_8,h_11,h_12,c_0,c_1,c_2,c_3,c_4,c_5,c_6⟩
   ·rw[hV.at 5 (hN.out 5 rfl)]at hK⊢;have hP:=c_1 (hN.out 3 rfl) hi.out;obtain⟨hE,⟨A4,c4,B4,d4,e3,hq4⟩,hb9⟩:=hP;have E3:=ZH e3;clear e3;go_simp;go_at_call 42;refine(fneg_any (hE.qr HQB8.out)).mono ?_;rintro e w10 ⟨p2,n3,A5,l3,c5,m3,B5,k3,d5,x3,rfl,ht3⟩;exact hK.out _ _ ⟨hV.eff 6,fun h=>no_f (Eq.trans (Eq.symm (hU.out 7 _ rfl rfl)) h),fun h=>no_f (Eq.trans (Eq.symm (hU.out 8 _ rfl rfl)) h),h_11,h_12,fun h=>no_f (Eq.trans (Eq.symm h) (hN.out 3 rfl)),fun _ h=>no_t h,fun _ _=>⟨hE.trans (FSt.of p2),⟨A4,c4,B4,d4,E3.out,hq4.below p2⟩,n3,A5,l3,c5,m3,B5,k3,d5,x3,rfl,ht3,hb9.below p2 ZL⟩,fun h=>no_f (Eq.trans (Eq.symm (hU.out 9 _ rfl rfl)) h),fun h=>no_f (Eq.trans (Eq.symm (Shut.no hC 10 9 rfl rfl (hU.out 9 _ rfl rfl))) h),fun h=>no_f (Eq.trans (Eq.symm (Shut.no hC 13 10 rfl rfl (Shut.no hC 10 9 rfl rfl (hU.out 9 _ rfl rfl)))) h),fun h=>no_f (Eq.trans (Eq.symm (Shut.no hC 16 13 rfl rfl (Shut.no hC 13 10 rfl rfl (Shut.no hC 10 9 rfl rfl (hU.out 9 _ rfl rfl))))) h)⟩
   ·have hP:=c_2 (hN.out 6 rfl) (hU.out 9 _ rfl rfl);obtain⟨_,_,n3,A5,l3,c5,m3,B5,k3,d5,x3,eM,_⟩:=hP;simp only[eM]at hK⊢;go_simp;refine hK.out _ _ ?_;exact⟨hV.eff 7,fun _=>(by show _=exv 0 (s 6);rw[eM];rfl),h_8,h_11,h_12,c_0,c_1,c_2,c_3,c_4,c_5,c_6⟩
   ·have hP:=c_2 (hN.out 6 rfl) (hU.out 9 _ rfl rfl);obtain⟨_,_,n3,A5,l3,c5,m3,B5,k3,d5,x3,eM,_⟩:=hP;simp only[eM]at hK⊢;go_simp;refine hK.out _ _ ?_;exact⟨hV.eff 8,h_7,fun _=>(by show _=exv 1 (s 6);rw[eM];rfl),h_11,h_12,c_0,c_1,c_2,c_3,c_4,c_5,c_6⟩
   ·rw[hV.at 4 (hN.out 4 rfl)]at hK⊢;rw[h_7 (hN.out 7 rfl)]at hK⊢;rw[h_8 (hN.out 8 rfl)]at hK⊢;have hP:=c_2 (hN.out 6 rfl) hi.out;obtain⟨hE,⟨A4,c4,B4,d4,e3,hq4⟩,n3,A5,l3,c5,m3,B5,k3,d5,x3,eM,ht3,hb9⟩:=hP;have E3:=ZH e3;clear e3;simp only[eM,exv_0,exv_1]at hK⊢;go_simp;go_at_call 40;refine(fmust_gen hb9 ht3 rfl).mono ?_;rintro e w10 ⟨p4,r4,A6,c6,B6,d6,b4,rfl,hq6,hbf4,ho4⟩;obtain⟨rfl,rfl⟩:r4= -bb∧b4=false:=by rcases ho4 with ⟨e1,e2⟩|⟨e1,_⟩;exact⟨(Option.some.inj e1).symm,e2⟩;cases e1
    exact hK.out _ _ ⟨hV.eff 9,h_7,h_8,h_11,h_12,fun h=>no_f (Eq.trans (Eq.symm h) (hC.out 6 _ rfl (hN.out 6 rfl) 3 rfl)),fun _ h=>no_f (Eq.trans (Eq.symm h) (hN.out 6 rfl)),fun _ h=>no_t h,fun _ _=>⟨hE.trans p4,⟨A4,c4,B4,d4,E3.out,p4.qr hq4⟩,⟨A6,c6,B6,d6,rfl,hq6⟩,hbf4⟩,fun h=>no_f (Eq.trans (Eq.symm (hU.out 10 _ rfl rfl)) h),fun h=>no_f (Eq.trans (Eq.symm (Shut.no hC 13 10 rfl rfl (hU.out 10 _ rfl rfl))) h),fun h=>no_f (Eq.trans (Eq.symm (Shut.no hC 16 13 rfl rfl (Shut.no hC 13 10 rfl rfl (hU.out 10 _ rfl rfl)))) h)⟩
   ·have hP:=c_3 (hN.out 9 rfl) hi.out;obtain⟨hE,⟨A4,c4,B4,d4,e3,hq4⟩,⟨A6,c6,B6,d6,e9,hq6⟩,hb9⟩:=hP;simp only[e3,e9]at hK⊢;go_simp;go_at_call 41;refine(fadd_any hq4 hq6).mono ?_;rintro e w10 ⟨p2,n3,A5,l3,c5,m3,B5,k3,d5,x3,rfl,ht3⟩;exact hK.out _ _ ⟨hV.eff 10,h_7,h_8,fun h=>no_f (Eq.trans (Eq.symm (hU.out 11 _ rfl rfl)) h),fun h=>no_f (Eq.trans (Eq.symm (hU.out 12 _ rfl rfl)) h),fun h=>no_f (Eq.trans (Eq.symm h) (hN.out 3 rfl)),fun _ h=>no_f (Eq.trans (Eq.symm h) (hC.out 9 _ rfl (hN.out 9 rfl) 6 rfl)),fun _ h=>no_f (Eq.trans (Eq.symm h) (hN.out 9 rfl)),fun _ h=>no_t h,fun _ _=>⟨hE.trans (FSt.of p2),n3,A5,l3,c5,m3,B5,k3,d5,x3,rfl,ht3,hb9.below p2 ZL⟩,fun h=>no_f (Eq.trans (Eq.symm (hU.out 13 _ rfl rfl)) h),fun h=>no_f (Eq.trans (Eq.symm (Shut.no hC 16 13 rfl rfl (hU.out 13 _ rfl rfl))) h)⟩
   ·have hP:=c_4 (hN.out 10 rfl) (hU.out 13 _ rfl rfl);obtain⟨_,n3,A5,l3,c5,m3,B5,k3,d5,x3,eM,_⟩:=hP;simp only[eM]at hK⊢;go_simp;refine hK.out _ _ ?_;exact⟨hV.eff 11,h_7,h_8,fun _=>(by show _=exv 0 (s 10);rw[eM];rfl),h_12,c_0,c_1,c_2,c_3,c_4,c_5,c_6⟩
   ·have hP:=c_4 (hN.out 10 rfl) (hU.out 13 _ rfl rfl);obtain⟨_,n3,A5,l3,c5,m3,B5,k3,d5,x3,eM,_⟩:=hP;simp only[eM]at hK⊢;go_simp;refine hK.out _ _ ?_;exact⟨hV.eff 12,h_7,h_8,h_11,fun _=>(by show _=exv 1 (s 10);rw[eM];rfl),c_0,c_1,c_2,c_3,c_4,c_5,c_6⟩
   ·rw[hV.at 1 (hN.out 1 rfl)]at hK⊢;rw[h_11 (hN.out 11 rfl)]at hK⊢;rw[h_12 (hN.out 12 rfl)]at hK⊢;have hP:=c_4 (hN.out 10 rfl) hi.out;obtain⟨hE,n3,A5,l3,c5,m3,B5,k3,d5,x3,eM,ht3,hb9⟩:=hP;simp only[eM,exv_0,exv_1]at hK⊢;go_simp;go_at_call 40;refine(fmust_gen hb9 ht3 rfl).mono ?_;rintro e w10 ⟨p4,r4,A6,c6,B6,d6,b4,rfl,hq6,hbf4,ho4⟩;exact hK.out _ _ ⟨hV.eff 13,h_7,h_8,h_11,h_12,fun h=>no_f (Eq.trans (Eq.symm h) (hC.out 10 _ rfl (hN.out 10 rfl) 3 rfl)),fun _ h=>no_f (Eq.trans (Eq.symm h) (hC.out 9 _ rfl (hC.out 10 _ rfl (hN.out 10 rfl) 9 rfl) 6 rfl)),fun _ h=>no_f (Eq.trans (Eq.symm h) (hC.out 10 _ rfl (hN.out 10 rfl) 9 rfl)),fun _ h=>no_f (Eq.trans (Eq.symm h) (hN.out 10 rfl)),fun _ h=>no_t h,fun _ _=>⟨hE.trans p4,r4,A6,c6,B6,d6,b4,rfl,hq6,hbf4,ho4⟩,fun h=>no_f (Eq.trans (Eq.symm (hU.out 16 _ rfl rfl)) h)⟩
   ·rw[hV.at 0 (hN.out 0 rfl)]at hK⊢;go_simp;exact hK.out _ _ ⟨hV.put 14,h_7,h_8,h_11,h_12,c_0,c_1,c_2,c_3,c_4,c_5,c_6⟩
   ·rw[hV.at 14 (hN.out 14 rfl)]at hK⊢;go_simp;exact hK.out _ _ ⟨hV.put 15,h_7,h_8,h_11,h_12,c_0,c_1,c_2,c_3,c_4,c_5,c_6⟩
   ·rw[hV.at 15 (hN.out 15 rfl)]at hK⊢;have hP:=c_5 (hN.out 13 rfl) hi.out;obtain⟨hE,r4,A4,c4,B4,d4,b4,e13,hq4,hb9,ho4⟩:=hP;simp only[e13]at hK⊢;have hgr:=(cells_put (qcs r4 A4 c4 B4 d4).toList 6 w9 (hb9.box rfl) rfl).1;refine wp_store_mid _ _ _ rfl g 6 (qcs r4 A4 c4 B4 d4) rfl rfl (there4 hb9 rfl (by show 10≤11;decide)) info_rat (by rw[←Array.all_toList];rfl) ?_;exact hK.out undef _ ⟨hV.eff 16,h_7,h_8,h_11,h_12,fun h=>no_f (Eq.trans (Eq.symm h) (hC.out 10 _ rfl (hC.out 13 _ rfl (hN.out 13 rfl) 10 rfl) 3 rfl)),fun _ h=>no_f (Eq.trans (Eq.symm h) (hC.out 9 _ rfl (hC.out 10 _ rfl (hC.out 13 _ rfl (hN.out 13 rfl) 10 rfl) 9 rfl) 6 rfl)),fun _ h=>no_f (Eq.trans (Eq.symm h) (hC.out 10 _ rfl (hC.out 13 _ rfl (hN.out 13 rfl) 10 rfl) 9 rfl)),fun _ h=>no_f (Eq.trans (Eq.symm h) (hC.out 13 _ rfl (hN.out 13 rfl) 10 rfl)),fun _ h=>no_f (Eq.trans (Eq.symm h) (hN.out 13 rfl)),fun _ h=>no_t h,fun _=>⟨hE.stp.trans (Stp.grew (hb9.box rfl) hgr),r4,A4,c4,B4,d4,b4,hq4.boxed (hb9.box rfl) hgr,(((hb9.set_ 6 _).set_ 7 _).set_ 8 _).set_ 9 _,ho4⟩⟩
  intro L s w9 hall hS;obtain⟨hV,h_7,h_8,h_11,h_12,c_0,c_1,c_2,c_3,c_4,c_5,c_6⟩:=hS;have hPm:=c_6 (hall 16 (by decide));clear hall hV h_7 h_8 h_11 h_12 c_0 c_1 c_2 c_3 c_4 c_5 c_6;obtain⟨hs9,room,A4,c4,B4,d4,b4,hq4,hb4,ho4⟩:=hPm;have HW9:=ZH (hs9.below HQ8.out HQ8.out.size (fun k e=>by omega));have HQ9:=ZH hq4;have HBF9:=ZH hb4;have HO9:=ZH ho4;obtain⟨W9,hW9⟩:∃W,W=w9:=⟨_,rfl⟩;subst hW9;have x10:W9.cell? ⟨g,10,none⟩=some (.bool b4):=hb4.cell 10;have x6:W9.cell? ⟨g,6,none⟩=some (.bool (sN room.num)):=hb4.cell 6;have hgw:=hb4.lt;clear hs9 hq4 hb4 ho4 x0 x1 x2 x3 HQ8 HK8 HQB8 HB8;have HQW:=ZH (bT HQ1.out HW9.out);cases b4 with
  |true=>
   have HE:Hid (R=([],3)):=by
    rcases HO9.out with ⟨_,e⟩|⟨e,_⟩
    ·cases e
    ·exact HE1.out.trans (by rw[e])
   clear HO9 HE1;go_wp2_with fail;exact bodyPost_ret (v:= .tuple #[.slice none 0 0,.int .i64 3]) (by simp[results,Tryz.results17,go_sem]) rfl (FilP.none HE.out rfl HQW.out)
  |false=>
   have HE2:Hid (R=(if room<0 then(([],12):List (List (Int×Int))×Int) else tellF (cutsF (decide (limit=1099511627776)) P qs room 0 d))):=by
    rcases HO9.out with ⟨e,_⟩|⟨_,e⟩
    ·exact HE1.out.trans (by rw[e];rfl)
    ·cases e
   clear HO9 HE1;by_cases hneg:room<0
   ·have hsn:sN room.num=true:=by rw[sN_dec];exact dT hneg
    rw[hsn]at x6;have HE:Hid (R=([],12)):=HE2.out.trans (if_pos hneg);clear hsn hneg HE2;go_wp2_with fail;exact bodyPost_ret (v:= .tuple #[.slice none 0 0,.int .i64 12]) (by simp[results,Tryz.results17,go_sem]) rfl (FilP.none HE.out rfl HQW.out)
   ·have hsn:sN room.num=false:=by rw[sN_dec];exact dF hneg
    rw[hsn]at x6;obtain⟨R',hR'⟩:∃R',cutsF (decide (limit=1099511627776)) P qs room 0 d=R':=⟨_,rfl⟩;have HE3:Hid (R=tellF R'):=HE2.out.trans (by rw[if_neg hneg,hR']);have HR':Hid (R'=(cutsF (decide (limit=1099511627776)) P qs room 0 (d.drop 0)).map fun o=>[]++o):=by
     show _=_;rw[List.drop_zero,hR'];cases R'<;>rfl
    have HROOM:=ZH (Rat.not_lt.1 hneg);have HYW:=ZH (GRow.qrow (HY.out _ HQ1.out) HFEW.out);clear hsn hneg HE2 hR';go_wp2_with fail;go_loopg [77,14,15] d.length (fun kk pp vo ve wr=>∃(j:Nat)(B:Option Addr)(cB:Nat)(ds':List Adr)(xs:List (List (Int×Int)))(bj:Bool),kk=d.length-j∧j≤d.length∧pp= .int .i64 (j:Nat)∧vo= .slice B xs.length cB∧ve= .bool (emptyB xs)∧Hid (xs.length=j)∧Hid ((bj=false∧R'=(cutsF (decide (limit=1099511627776)) P qs room j (d.drop j)).map fun o=>xs++o)∨(bj=true∧R'=none))∧
     Hid (DOwn wr W9.heap.size B cB ds' xs)∧Hid (Blk wr g tyFl (flC mm P A n c room A4 c4 B4 d4 bj))∧Hid (Stp (fun k=>k=g) W9 wr))
    case atStart=>exact⟨0,none,0,[],[],false,rfl,Nat.zero_le _,rfl,rfl,rfl,rfl,.inl ⟨rfl,HR'.out⟩,DOwn.nil _ _,HBF9.out,Stp.refl⟩
    case round=>
     clear HR' HBF9 x6 x10;obtain⟨j,B,cB,ds',xs,bj,hkk,hj,rfl,rfl,rfl,HXL,HL,HDO,HBF,HST⟩:=hrel;have HWR:=ZH (HST.out.below HW9.out HW9.out.size (fun k e=>by omega));have HQR:=ZH (HQ9.out.stp HST.out);by_cases hlt:j<d.length
     ·have e1:decide ((j:Int)<(d.length:Int))=true:=dT (by omega);have HDW:=ZH (HD.out.below (bT HQ1.out HWR.out));obtain⟨gd,od,hda,cd⟩:=HDW.out.ap j hlt;replace cd:wr.cell? ⟨gd,od+j,none⟩=some (.slice (ds.getD j ad0).1 (d.getD j []).length (ds.getD j ad0).2):=cd;have HDA:=ZH hda;rw[hda];have hxs6:xs.length≤1000000:=by rw[HXL.out];omega
      have HRRW:=ZH ((HD.out.below HQ1.out).ar j hlt);have HRRN:=ZH (HDW.out.ar j hlt);have HSJ:=ZH (HSET.out (d.getD j []) (getD_in hlt));have hsl:=HSJ.out.2;have hcj:=HCAP.out j hlt;have HL2:Hid ((bj=false∧R'=(cutsF (decide (limit=1099511627776)) P qs room j (d.getD j []::d.drop (j+1))).map fun o=>xs++o)∨(bj=true∧R'=none)):=by
       have:=HL.out;rw[drop_at (z:=[]) hlt]at this;exact this
      clear hda HL;generalize (ds.getD j ad0).1=DA at*;generalize (ds.getD j ad0).2=dc at*;generalize d.getD j []=row at*;have HBFC:Hid (Blk wr g tyFl (flC mm P A qs.length c room A4 c4 B4 d4 bj)):=by
       have:=HBF.out;rw[HNN.out]at this;exact this
      have HCUT:=ZH (fcut_any (w0:=w1) (j:=j) (c:=dc) HWR.out (by omega) HPG.out HYW.out HBFC.out HQR.out HLY.out HR.out (by rw[HDL.out];exact hlt) HRRW.out HSJ.out.1 (by omega) hcj HROOM.out);go_upto_if 83 with fail;go_cut [17] (fun s17 wx=>∃(AX:Option Addr)(cx:Nat)(x:List (Int×Int))(b':Bool),s17= .slice AX x.length cx∧x.length≤1000000∧RRow wx AX x∧Hid ((b'=true∧(bj=true∨(if decide (limit=1099511627776)=true then some row else cutO P qs room j row)=none))∨(b'=false∧bj=false∧(if decide (limit=1099511627776)=true then some row else cutO P qs room j row)=some x))∧
       Blk wx g tyFl (flC mm P A n c room A4 c4 B4 d4 b')∧Stp (fun k=>k=g) wr wx)
      case first=>
       by_cases hfree:limit=1099511627776
       ·have e2:(limit !=1099511627776)=false:=by rw[hfree];rfl
        have HS:Hid ((bj=true∧(bj=true∨(if decide (limit=1099511627776)=true then some row else cutO P qs room j row)=none))∨(bj=false∧bj=false∧(if decide (limit=1099511627776)=true then some row else cutO P qs room j row)=some row)):=by
         rw[dT hfree,if_pos rfl];cases bj
         ·exact .inr ⟨rfl,rfl,rfl⟩
         ·exact .inl ⟨rfl,.inl rfl⟩
        clear hfree HCUT;go_wp2_with fail;go_meet;exact⟨DA,dc,row,bj,rfl,by omega,HRRN.out,HS.out,HBF.out,Stp.refl⟩
       ·have e2:(limit !=1099511627776)=true:=bne_iff_ne.2 hfree;have HFR:=ZH hfree;clear hfree;go_wp2_with fail;refine HCUT.out.mono ?_;rintro e w10 ⟨hs10,AX,cx,x,b',rfl,hrx,hxl,hbx,hres⟩;have HS:Hid ((b'=true∧(bj=true∨(if decide (limit=1099511627776)=true then some row else cutO P qs room j row)=none))∨(b'=false∧bj=false∧(if decide (limit=1099511627776)=true then some row else cutO P qs room j row)=some x)):=by
         rw[dF HFR.out,if_neg (by decide)];exact hres
        have HB10:Hid (Blk w10 g tyFl (flC mm P A n c room A4 c4 B4 d4 b')):=by
         show Blk _ _ _ _;rw[HNN.out];exact hbx
        have HS10:=ZH hs10.stp;have HRX:=ZH hrx;clear hres hbx hs10 hrx HCUT;go_wp2_with fail;go_meet;exact⟨AX,cx,x,b',rfl,hxl,HRX.out,HS.out,HB10.out,HS10.out⟩
      case rest=>
       obtain⟨AX,cx,x,b',rfl,hxl,hrx,HSX,hbx,hsx⟩:=hcut;obtain⟨WX,hWX⟩:∃W,W=wc:=⟨_,rfl⟩;subst hWX;have HSTX:=ZH (HST.out.trans hsx);have HDX:=ZH (HDO.out.stp hsx (fun k e=>by omega));have HL3:=ZH (cutsF_step HL2.out HSX.out);have HBX:=ZH hbx;have HCL:=ZH (rclone_any (c:=cx) hrx hxl);have hw9x:=HSTX.out.size;have HEM:Hid (emptyB (xs++[x])=(emptyB xs||decide ((x.length:Int)=0))):=emptyB_app xs x;clear hrx hbx hsx HCUT HL2 HSX HDO HST cd;obtain⟨em,hem⟩:∃em,emptyB xs=em:=⟨_,rfl⟩;rw[hem]at HEM⊢;clear hem;go_upto_region 20 with fail;go_cut [15] (fun s15 wx=>s15= .bool (em||decide ((x.length:Int)=0))∧wx=WX)
       case first=>
        cases em with
        |true=>
         go_wp2_with fail;go_meet;exact⟨rfl,rfl⟩
        |false=>
         go_wp2_with fail;go_meet;exact⟨by rw[Bool.false_or];rfl,rfl⟩
       case rest=>
        obtain⟨rfl,rfl⟩:=hcut;rw[←HEM.out];obtain⟨em2,hem2⟩:∃em2,emptyB (xs++[x])=em2:=⟨_,rfl⟩;have HEM2:=ZH hem2;rw[hem2];clear hem2 HEM;go_wp2_with fail;refine HCL.out.mono ?_;rintro e w11 ⟨B2,c2,rfl,hr2,q11,hn2⟩;have HD11:=ZH (HDX.out.below q11);have HB11:=ZH (HBX.out.below q11 ZL);have HS11:=ZH (HSTX.out.trans (Stp.of q11));have HR11:=ZH hr2;have HN11:=ZH hn2;have hw11:W9.heap.size≤w11.heap.size:=HS11.out.size;have HAP:=ZH HD11.out.ap;have HWX:=ZH q11.size;clear hr2 hn2 q11 HCL;go_wp2_with (at_builtin;refine wp_appNu _ _ w11 W9.heap.size tyRs 1 (.slice B xs.length cB) xs.length (domVs ds' xs) #[.slice B2 x.length c2] (by first|rfl|simp) Tryz.underlying22 info_rsl rfl rfl (by decide) (by decide) HAP.out hw11 hxs6 rfl rfl rfl rfl rfl rfl rfl ?_;intro v7 w7' r1 r2 r3 r4;obtain⟨A7,c7,rfl⟩:=r1.slice;rw[own_bl]at r2 r4;rw[own_bl]at r4);have HPU:=ZH (HD11.out.push (B':=A7) (c':=c7) (R:=(B2,c2)) (x:=x) HR11.out (fun k hk=>by
         have h1:=HN11.out k hk;refine⟨h1.2,fun e=> ?_,by have:=HWX.out;omega⟩;have:=(HDX.out.ap.ltBl e).2;omega) r1 r2 r4)
        have hl7:(xs++[x]).length=xs.length+1:=by rw[List.length_append];rfl
        have HS12:Hid (Stp (fun k=>k=g) W9 w7'):=by
         refine HS11.out.then (T:=fun k=>W9.heap.size≤k) ?_ (fun k hk=> .inl hk);refine⟨r2.os,r2.tape,r2.output,r2.size,fun k hk hn=>r2.block k hk (fun e=>hn ((HD11.out.ap.ltBl e.symm).1)),fun rr=> ?_⟩;cases hB:bl B with
         |none=>
          rw[hB]at r2;exact Rd.below rr ⟨r2.os,r2.tape,r2.output,r2.size,fun k hk=>r2.block k hk (by simp)⟩ ZL
         |some bb2=>
          rw[hB]at r2;exact rr.boxed (HD11.out.ap.boxBl hB) r2
        have HB12:Hid (Blk w7' g tyFl (flC mm P A n c room A4 c4 B4 d4 b')):=(r2.block g HB11.out.lt (fun e=>by have:=(HD11.out.ap.ltBl e.symm).1;omega)).trans HB11.out;rw[←HDA.out];go_roundg (d.length-(j+1))
        case measure=>omega
        case rel=>exact⟨j+1,A7,c7,ds'++[(B2,c2)],xs++[x],b',rfl,by omega,by simp,by rw[hl7],by rw[HEM2.out],by (show _=_);rw[hl7,HXL.out],HL3.out,HPU.out,HB12.out,HS12.out⟩
     ·have e1:decide ((j:Int)<(d.length:Int))=false:=dF (by omega);have HLE:Hid ((bj=false∧R'=some xs)∨(bj=true∧R'=none)):=by
       have:=HL.out;rw[List.drop_eq_nil_of_le (by omega)]at this;rcases this with ⟨h1,h2⟩|h
       ·refine .inl ⟨h1,?_⟩;rw[h2];show some (xs++[])=some xs;rw[List.append_nil]
       ·exact .inr h
      have x10:wr.cell? ⟨g,10,none⟩=some (.bool bj):=HBF.out.cell 10;have HQE:=ZH (bT HQ1.out HWR.out);obtain⟨em,hem⟩:∃em,emptyB xs=em:=⟨_,rfl⟩;have HEM:=ZH hem;rw[hem];clear HL hem;cases bj with
      |true=>
       have HE:Hid (R=([],3)):=by
        rcases HLE.out with ⟨e,_⟩|⟨_,e⟩
        ·cases e
        ·exact HE3.out.trans (by rw[e];rfl)
       clear HLE HE3;go_wp2_with fail;exact bodyPost_ret (v:= .tuple #[.slice none 0 0,.int .i64 3]) (by simp[results,Tryz.results17,go_sem]) rfl (FilP.none HE.out rfl HQE.out)
      |false=>
       have HE:Hid (R=if em then([],12) else(xs,0)):=by
        rcases HLE.out with ⟨_,e⟩|⟨e,_⟩
        ·refine HE3.out.trans ?_;rw[e];show(if emptyB xs=true then _ else _)=_;rw[HEM.out]
        ·cases e
       clear HLE HE3;cases em with
       |true=>
        go_wp2_with fail;exact bodyPost_ret (v:= .tuple #[.slice none 0 0,.int .i64 12]) (by simp[results,Tryz.results17,go_sem]) rfl (FilP.none (HE.out.trans (if_pos trivial)) rfl HQE.out)
       |false=>
        go_wp2_with fail;refine bodyPost_ret (v:= .tuple #[.slice B xs.length cB,.int .i64 0]) (by simp[results,Tryz.results17,go_sem]) rfl ?_;rw[HE.out.trans (if_neg (by decide))];exact⟨HQE.out,B,cB,ds',rfl,HDO.out.ds⟩
end Go.Proofs.YtecfcjdgmpopjaaGreat

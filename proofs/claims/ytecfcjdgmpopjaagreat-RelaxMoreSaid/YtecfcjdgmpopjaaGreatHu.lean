/-
  Joined texts: Hj, Ib, Ht, Hu.
-/
import Derived.Test.YtecfcjdgmpopjaaGreatHi
import Derived.Test.YtecfcjdgmpopjaaGreatFrameR
import Derived.Test.YtecfcjdgmpopjaaGreatFa
import Derived.Test.YtecfcjdgmpopjaaGreatGl
import Derived.Test.YtecfcjdgmpopjaaGreatGu
import Derived.BigQuiet
import Derived.Test.YtecfcjdgmpopjaaGreatHh
import Derived.Test.YtecfcjdgmpopjaaGreatGq
set_option maxHeartbeats 40000000
set_option maxRecDepth 100000
set_option linter.unusedSimpArgs false
set_option linter.unusedVariables false
namespace Go.Proofs.YtecfcjdgmpopjaaGreat
open Go.RowKit Num
theorem QRow.frs {w:World}{A:Option Addr}{l:List Rat}(h:QRow w A l):GRow w A (l.map frq)∧∀q∈l,Few q:=by
 refine⟨fun j hj=> ?_,fun q hq=> ?_⟩
 ·rw[List.length_map]at hj;obtain⟨g,o,hA,A',c,B,d,h1,h2,h3,h4,h5⟩:=h j hj;have e:(l.map frq).getD j fr0=frq (l.getD j 0):=by
   rw[gE,gE,List.getElem?_map,gG hj];rfl
  rw[e];exact⟨g,o,hA,A',c,B,d,h1,h2,h3,h4,h5.num,h5.den⟩
 ·obtain⟨j,hj,rfl⟩:=List.getElem_of_mem hq;obtain⟨g,o,hA,A',c,B,d,_,_,_,_,h5⟩:=h j hj;rw[gE,gG hj]at h5;exact h5.few
theorem frq_ok {q:Rat}(hf:Few q)(h:0≤q):frB (frq q)=true:=by
 unfold frB frq;rw[Bool.and_eq_true];refine⟨qright_rat hf,?_⟩;show(!sN q.num)=true;rw[sN_dec,dF (Rat.not_lt.2 h)];rfl
theorem sol_numbers {p:Pg}{y:List Rat}(h1:y.length=p.a.length)(h2:∀q∈y,0≤q)(hf:∀q∈y,Few q):numbersB p (y.map frq)=true:=by
 unfold numbersB;rw[Bool.and_eq_true,decide_eq_true_eq,List.length_map,List.all_eq_true];refine⟨h1,fun f hm=> ?_⟩;obtain⟨q,hq,rfl⟩:=List.mem_map.1 hm;exact frq_ok (hf q hq) (h2 q hq)
def SolC (p:Pg)(n:Nat):Prop:=(∃x y vv,solveT p n=⟨1,x,some vv,y⟩∧y.length=p.a.length∧∀q∈y,0≤q)∨(∃y,solveT p n=⟨2,[],none,y⟩)∨solveT p n=⟨3,[],none,[]⟩
theorem info_an7:(Tryz.prog.info? 98).map (·.size)=some 7:=by kernel_rfl
theorem prune_core {w:World}{a:Mp}{m:Md}{D:Option Addr}{Dc:Nat}{ds:List Adr}{d:List (List (Int×Int))}{limit:Int}{n:Nat}(h:MdAt w a m)(hd:DsAt w D ds d)(hz:MdSz m)(hzd:MdSz {m with doms:=d})(hcap:∀i,i<d.length→(d.getD i []).length≤(ds.getD i ad0).2)(hf:fitM m d=true)(hlo: -1099511627776≤limit)(hhi:limit≤1099511627776)(hsc:SolC (ofP m d) n):Calls Tryz.prog 20 #[.agg (mdC a m),.slice D d.length Dc,.int .i64 limit,.int .i64 (n:Nat)] w fun e w'=>FilP (pruneM m d limit n) w e w':=by
 have M:=(Mem.start w).new 25 (mdC a m);obtain⟨m0,m1,m2,m3⟩:=(M.k (i:=0) rfl).four;have HMM:=ZH M;have HQ:=ZH M.bel;have HO:=ZH (of_good (Dc:=Dc) (h.below M.bel) (hd.below M.bel) hz hzd hf);have hr:=ofP_right hf;have HD:=ZH hd;have hset:∀x∈d,x.length≤1000:=fun x hx=>hzd.ds x hx;have HSET:=ZH hset;have hd64:=(fit_parts hf).2.1;obtain⟨R,hRR⟩:∃R,pruneM m d limit n=R:=⟨_,rfl⟩;have HRR:Hid (R=if (solveT (ofP m d) n).kind=2 then([],12) else if (solveT (ofP m d) n).kind=1 then(if (filterM m d (solveT (ofP m d) n).y true limit).2=3 then(d,0) else filterM m d (solveT (ofP m d) n).y true limit) else(d,0)):=by
  show _=_;rw[←hRR];unfold pruneM;rw[hf,dT hlo,dT hhi,show(true&&(true&&true))=true from rfl,if_pos rfl,if_neg (by omega)];rfl
 rw[hRR];have HSZ:=ZH (pgsz_right hr);have HFI:=ZH (fun(A:Option Addr)(c:Nat)(qs:List Rat)(w':World)(q:Below w.heap.size w w')(hq:QRow w' A qs)(hp:qs.length=(ofP m d).a.length∧∀q∈qs,0≤q)=>filter_good (c:=c) (n:=qs.length) (Dc:=Dc) (h.below q) (hd.below q) hz hzd hcap hq.frs.1 hq.frs.2 rfl hf hlo hhi (sol_numbers hp.1 hp.2 hq.frs.2));have HSO:=ZH (fun(w':World)(mm:Pa)(hp:PgAt w' mm (ofP m d))=>solve_good (n:=n) hp (pgsz_right hr) hr);have HSC:=ZH hsc;generalize ofP m d=P at*;have d1:decide (limit< -1099511627776)=false:=dF (by omega);have d2:decide (1099511627776<limit)=false:=dF (by omega);clear h hd hz hzd hf hr hRR hset hcap M hsc;go_enter Tryz.func20,Tryz.ntmps20;go_wp2_with fail;refine HO.out.mono ?_;rintro e w1 ⟨q1,mm,rfl,hpg⟩;have M1:=(Mem.start w1).new 31 z5P;have HQ1:=ZH (bT HQ.out q1);have HM1:=ZH (HMM.out.below q1);have HPG:=ZH hpg;clear q1 m0 m1 m2 m3 hpg HO HMM;go_upto_region 4 with ((with_reducible refine st_ ?_);refine wP2 _ _ (M1.k (i:=0) rfl) rfl rfl rfl rfl info_pg5 rfl rfl ?_;intro w5 b5 g5';replace M1:=M1.row ZL (by simp) rfl b5 g5');have HQ2:=ZH (bT HQ1.out M1.bel);have HM2:=ZH (HM1.out.below M1.bel);obtain⟨f0,f1,f2,f3,f4⟩:=(M1.k (i:=0) rfl).fiveP;have HSS:=ZH (HSO.out _ _ (HPG.out.below M1.bel));clear b5 g5' M1 HM1;go_wp2_with fail;refine HSS.out.mono ?_;rintro e w6 ⟨v,rfl,hav,q6⟩;have HQ6:=ZH (bT HQ2.out q6);have HM6:=ZH (HM2.out.below q6);clear q6 f0 f1 f2 f3 f4 HSS HSO HM2;have M2:=(Mem.start w6).new 98 an0;rcases HSC.out with ⟨x,y,vv,hs,hp⟩|⟨y,hs⟩|hs
 ·rw[hs]at hav HRR;obtain⟨AX,cX,AY,cY,k1,k2,A3,c3,B3,d3,rfl,k3⟩:=hav;have HE0:Hid (R=if (filterM m d y true limit).2=3 then(d,0) else filterM m d y true limit):=HRR.out.trans ((if_neg (show ¬(1:Int)=2 by decide)).trans (if_pos rfl));have HK2:=ZH k2;have HPR:=ZH hp;clear k1 k2 k3 hs hp HSC HRR;dsimp only;go_upto_region 5 with ((with_reducible refine st_ ?_);refine wP2 _ _ (M2.k (i:=0) rfl) rfl rfl rfl rfl info_an7 rfl rfl ?_;intro w7 b7 g7;have HY7:=ZH ((HK2.out.below (bA1 w6 (.cells an0 98))).stpA (Stp.grew ((M2.k (i:=0) rfl).box rfl) g7) (M2.k (i:=0) rfl) an0_no);replace M2:=M2.row ZL (by simp) rfl b7 g7);have HQ7:=ZH (bT HQ6.out M2.bel);obtain⟨m0,m1,m2,m3⟩:=((HM6.out.below M2.bel).k (i:=0) rfl).four;have a0:w7.cell? ⟨w6.heap.size,0,none⟩=some (.int .i64 1):=(M2.k (i:=0) rfl).cell 0;have a6:w7.cell? ⟨w6.heap.size,6,none⟩=some (.slice AY y.length cY):=(M2.k (i:=0) rfl).cell 6;have HF:=ZH (HFI.out AY cY y w7 HQ7.out HY7.out HPR.out);generalize filterM m d y true limit=F at*;clear b7 g7 M2 HK2 HPR HY7 HFI HM6;go_wp2_with fail;refine HF.out.mono ?_;rintro e w8 ⟨q8,B,cc,ds',rfl,hds⟩;have HQ8:=ZH (bT HQ7.out q8);obtain⟨F1,F2⟩:=F;have HDS8:=ZH hds;clear q8 hds HF a0 a6 m0 m1 m2 m3;dsimp only;by_cases h3:F2=3
  ·have e2:(F2 !=3)=false:=by rw[h3];rfl
   have HE:Hid (R=(d,0)):=HE0.out.trans (if_pos h3);clear h3 HE0;go_wp2_with fail;go_loopg [67,15] d.length (fun kk pp vo wr=>∃(j:Nat)(B:Option Addr)(cB:Nat)(ds':List Adr)(xs:List (List (Int×Int))),kk=d.length-j∧j≤d.length∧pp= .int .i64 (j:Nat)∧vo= .slice B xs.length cB∧Hid (xs=d.take j)∧Hid (DOwn wr w8.heap.size B cB ds' xs)∧Hid (Below w8.heap.size w8 wr))
   case atStart=>exact⟨0,none,0,[],[],rfl,Nat.zero_le _,rfl,rfl,rfl,DOwn.nil _ _,Below.refl _ _⟩
   case round=>
    obtain⟨j,B,cB,ds',xs,hkk,hj,rfl,rfl,HXL,HDO,HBW⟩:=hrel;have HWR:=ZH (bT HQ8 HBW.out);by_cases hlt:j<d.length
    ·have e1:decide ((j:Int)<(d.length:Int))=true:=dT (by omega);have HDW:=ZH (HD.out.below HWR.out);obtain⟨gd,od,hda,cd⟩:=HDW.out.ap j hlt;replace cd:wr.cell? ⟨gd,od+j,none⟩=some (.slice (ds.getD j ad0).1 (d.getD j []).length (ds.getD j ad0).2):=cd;have HDA:=ZH hda;rw[hda];have hxs6:xs.length≤1000000:=by rw[HXL.out,List.length_take];omega
     have HRRN:=ZH (HDW.out.ar j hlt);have hsl:=HSET.out (d.getD j []) (getD_in hlt);have HX2:Hid (xs++[d.getD j []]=d.take (j+1)):=by
      show _=_;rw[HXL.out,List.take_add_one,gG hlt,gE,gG hlt];rfl
     clear hda;generalize (ds.getD j ad0).1=DA at*;generalize (ds.getD j ad0).2=dc at*;generalize d.getD j []=row at*;have HCL:=ZH (rclone_any (c:=dc) HRRN.out (by omega));go_wp2_with fail;refine HCL.out.mono ?_;rintro e w11 ⟨B2,c2,rfl,hr2,q11,hn2⟩;have HD11:=ZH (HDO.out.below q11);have HR11:=ZH hr2;have HN11:=ZH hn2;have HS11:=ZH (bT HBW.out q11);have hw11:=HS11.out.size;have hbw:=HBW.out.size;have HAP:=ZH HD11.out.ap;clear hr2 hn2 q11 HCL cd;go_wp2_with (at_builtin;refine wp_appNu _ _ w11 w8.heap.size tyRs 1 (.slice B xs.length cB) xs.length (domVs ds' xs) #[.slice B2 row.length c2] (by first|rfl|simp) Tryz.underlying22 info_rsl rfl rfl (by decide) (by decide) HAP.out hw11 hxs6 rfl rfl rfl rfl rfl rfl rfl ?_;intro v7 w7' r1 r2 r3 r4;obtain⟨A7,c7,rfl⟩:=r1.slice;rw[own_bl]at r2 r4;rw[own_bl]at r4);have HPU:=ZH (HD11.out.push (B':=A7) (c':=c7) (R:=(B2,c2)) (x:=row) HR11.out (fun k hk=>by
      have h1:=HN11.out k hk;refine⟨h1.2,fun e=> ?_,by omega⟩;have:=(HDO.out.ap.ltBl e).2;omega) r1 r2 r4)
     have hl7:(xs++[row]).length=xs.length+1:=by rw[List.length_append];rfl
     rw[←HDA.out];go_roundg (d.length-(j+1))
     case measure=>omega
     case rel=>exact⟨j+1,A7,c7,ds'++[(B2,c2)],xs++[row],rfl,by omega,by simp,by rw[hl7],HX2.out,HPU.out,HS11.out.trans r3⟩
    ·have e1:decide ((j:Int)<(d.length:Int))=false:=dF (by omega);have HXD:Hid (xs=d):=HXL.out.trans (List.take_of_length_le (by omega));go_wp2_with fail;refine bodyPost_ret (v:= .tuple #[.slice B xs.length cB,.int .i64 0]) (by simp[results,Tryz.results20,go_sem]) rfl ?_;rw[HE.out];refine⟨HWR.out,B,cB,ds',by rw[HXD.out],?_⟩;have:=HDO.out.ds;rw[HXD.out]at this;exact this
  ·have e2:(F2 !=3)=true:=bne_iff_ne.2 h3;have HE:Hid (R=(F1,F2)):=HE0.out.trans (if_neg h3);clear h3 HE0;go_wp2_with fail;refine bodyPost_ret (v:= .tuple #[.slice B F1.length cc,.int .i64 F2]) (by simp[results,Tryz.results20,go_sem]) rfl ?_;rw[HE.out];exact⟨HQ8.out,B,cc,ds',rfl,HDS8.out⟩
 ·rw[hs]at hav HRR;obtain⟨AX,cX,AY,cY,k1,k2,rfl⟩:=hav;have HE:Hid (R=([],12)):=HRR.out.trans (if_pos rfl);clear k1 k2 hs HSC HRR HFI HM6;dsimp only;go_upto_region 5 with ((with_reducible refine st_ ?_);refine wP2 _ _ (M2.k (i:=0) rfl) rfl rfl rfl rfl info_an7 rfl rfl ?_;intro w7 b7 g7;replace M2:=M2.row ZL (by simp) rfl b7 g7);have HQ7:=ZH (bT HQ6.out M2.bel);have a0:w7.cell? ⟨w6.heap.size,0,none⟩=some (.int .i64 2):=(M2.k (i:=0) rfl).cell 0;clear b7 g7 M2;go_wp2_with fail;exact bodyPost_ret (v:= .tuple #[.slice none 0 0,.int .i64 12]) (by simp[results,Tryz.results20,go_sem]) rfl (FilP.none HE.out rfl HQ7.out)
 ·rw[hs]at hav HRR;obtain⟨AX,cX,AY,cY,k1,k2,rfl⟩:=hav;have HE:Hid (R=(d,0)):=HRR.out.trans ((if_neg (show ¬(3:Int)=2 by decide)).trans (if_neg (show ¬(3:Int)=1 by decide)));clear k1 k2 hs HSC HRR HFI HM6;dsimp only;go_upto_region 5 with ((with_reducible refine st_ ?_);refine wP2 _ _ (M2.k (i:=0) rfl) rfl rfl rfl rfl info_an7 rfl rfl ?_;intro w7 b7 g7;replace M2:=M2.row ZL (by simp) rfl b7 g7);have HQ7:=ZH (bT HQ6.out M2.bel);have a0:w7.cell? ⟨w6.heap.size,0,none⟩=some (.int .i64 3):=(M2.k (i:=0) rfl).cell 0;clear b7 g7 M2;go_wp2_with fail;go_loopg [67,15] d.length (fun kk pp vo wr=>∃(j:Nat)(B:Option Addr)(cB:Nat)(ds':List Adr)(xs:List (List (Int×Int))),kk=d.length-j∧j≤d.length∧pp= .int .i64 (j:Nat)∧vo= .slice B xs.length cB∧Hid (xs=d.take j)∧Hid (DOwn wr w7.heap.size B cB ds' xs)∧Hid (Below w7.heap.size w7 wr))
  case atStart=>exact⟨0,none,0,[],[],rfl,Nat.zero_le _,rfl,rfl,rfl,DOwn.nil _ _,Below.refl _ _⟩
  case round=>
   obtain⟨j,B,cB,ds',xs,hkk,hj,rfl,rfl,HXL,HDO,HBW⟩:=hrel;have HWR:=ZH (bT HQ7 HBW.out);by_cases hlt:j<d.length
   ·have e1:decide ((j:Int)<(d.length:Int))=true:=dT (by omega);have HDW:=ZH (HD.out.below HWR.out);obtain⟨gd,od,hda,cd⟩:=HDW.out.ap j hlt;replace cd:wr.cell? ⟨gd,od+j,none⟩=some (.slice (ds.getD j ad0).1 (d.getD j []).length (ds.getD j ad0).2):=cd;have HDA:=ZH hda;rw[hda];have hxs6:xs.length≤1000000:=by rw[HXL.out,List.length_take];omega
    have HRRN:=ZH (HDW.out.ar j hlt);have hsl:=HSET.out (d.getD j []) (getD_in hlt);have HX2:Hid (xs++[d.getD j []]=d.take (j+1)):=by
     show _=_;rw[HXL.out,List.take_add_one,gG hlt,gE,gG hlt];rfl
    clear hda;generalize (ds.getD j ad0).1=DA at*;generalize (ds.getD j ad0).2=dc at*;generalize d.getD j []=row at*;have HCL:=ZH (rclone_any (c:=dc) HRRN.out (by omega));go_wp2_with fail;refine HCL.out.mono ?_;rintro e w11 ⟨B2,c2,rfl,hr2,q11,hn2⟩;have HD11:=ZH (HDO.out.below q11);have HR11:=ZH hr2;have HN11:=ZH hn2;have HS11:=ZH (bT HBW.out q11);have hw11:=HS11.out.size;have hbw:=HBW.out.size;have HAP:=ZH HD11.out.ap;clear hr2 hn2 q11 HCL cd;go_wp2_with (at_builtin;refine wp_appNu _ _ w11 w7.heap.size tyRs 1 (.slice B xs.length cB) xs.length (domVs ds' xs) #[.slice B2 row.length c2] (by first|rfl|simp) Tryz.underlying22 info_rsl rfl rfl (by decide) (by decide) HAP.out hw11 hxs6 rfl rfl rfl rfl rfl rfl rfl ?_;intro v7 w7' r1 r2 r3 r4;obtain⟨A7,c7,rfl⟩:=r1.slice;rw[own_bl]at r2 r4;rw[own_bl]at r4);have HPU:=ZH (HD11.out.push (B':=A7) (c':=c7) (R:=(B2,c2)) (x:=row) HR11.out (fun k hk=>by
     have h1:=HN11.out k hk;refine⟨h1.2,fun e=> ?_,by omega⟩;have:=(HDO.out.ap.ltBl e).2;omega) r1 r2 r4)
    have hl7:(xs++[row]).length=xs.length+1:=by rw[List.length_append];rfl
    rw[←HDA.out];go_roundg (d.length-(j+1))
    case measure=>omega
    case rel=>exact⟨j+1,A7,c7,ds'++[(B2,c2)],xs++[row],rfl,by omega,by simp,by rw[hl7],HX2.out,HPU.out,HS11.out.trans r3⟩
   ·have e1:decide ((j:Int)<(d.length:Int))=false:=dF (by omega);have HXD:Hid (xs=d):=HXL.out.trans (List.take_of_length_le (by omega));go_wp2_with fail;refine bodyPost_ret (v:= .tuple #[.slice B xs.length cB,.int .i64 0]) (by simp[results,Tryz.results20,go_sem]) rfl ?_;rw[HE.out];refine⟨HWR.out,B,cB,ds',by rw[HXD.out],?_⟩;have:=HDO.out.ds;rw[HXD.out]at this;exact this
def mdA:Md:=⟨[[(0,9)],[(0,9)]],[⟨2,[0,1],[-1,-1],-4⟩],1,0⟩
def pgA:Pg:=⟨[0,0],[9,9],[[-1,-1]],[-4],[1,0]⟩
theorem of_A:ofP mdA mdA.doms=pgA:=by kernel_rfl
theorem fit_A:fitM mdA mdA.doms=true:=by kernel_rfl
theorem filter_A:filterM mdA mdA.doms [((0:Int):Rat)] true 3=([[(0,3)],[(0,9)]],0):=by kernel_rfl
theorem prune_A:pruneM mdA mdA.doms (-1) (100:Nat)=([],12):=by kernel_rfl
theorem sol_A3:solveT (ofP mdA mdA.doms) 100=⟨1,(solveT (ofP mdA mdA.doms) 100).x,some ((solveT (ofP mdA mdA.doms) 100).value.getD 0),[0]⟩:=by kernel_rfl
theorem solc_A:SolC (ofP mdA mdA.doms) 100:= .inl ⟨_,_,_,sol_A3,by kernel_rfl,fun q hq=>by rw[List.mem_singleton.1 hq];decide+kernel⟩
theorem nb_A:numbersB (ofP mdA mdA.doms) ([((0:Int):Rat)].map frq)=true:=by kernel_rfl
theorem small_A:smallM mdA=true:=by kernel_rfl
theorem IRow.blkA {w:World}{g:Nat}{t:TypeId}{l:List Int}(h:Blk w g t (l.map fun z=>Value.int .i64 z).toArray):IRow w (some ⟨g,0,none⟩) l:=fun j hj=>by
 refine⟨g,0,rfl,?_⟩;have h1:=h.cell j;rw[Nat.zero_add];refine h1.trans ?_;rw[List.getElem?_toArray,List.getElem?_map,gG hj];show _=some (Value.int .i64 (l.getD j 0));rw[gE,gG hj];rfl
abbrev mpA (g0 g1 g2 g3 g4 g5:Nat):Mp:=⟨(some ⟨g2,0,none⟩,2),[(some ⟨g0,0,none⟩,1),(some ⟨g1,0,none⟩,1)],(some ⟨g5,0,none⟩,1),[(some ⟨g3,0,none⟩,2)],[(some ⟨g4,0,none⟩,2)]⟩
theorem md_A {w:World}{g0 g1 g2 g3 g4 g5:Nat}{t0 t1 t2 t3 t4 t5:TypeId}(h0:Blk w g0 t0 #[.int .i64 0,.int .i64 9])(h1:Blk w g1 t1 #[.int .i64 0,.int .i64 9])(h2:Blk w g2 t2 #[.slice (some ⟨g0,0,none⟩) 1 1,.slice (some ⟨g1,0,none⟩) 1 1])(h3:Blk w g3 t3 #[.int .i64 0,.int .i64 1])(h4:Blk w g4 t4 #[.int .i64 (-1),.int .i64 (-1)])(h5:Blk w g5 t5 #[.int .i64 2,.slice (some ⟨g3,0,none⟩) 2 2,.slice (some ⟨g4,0,none⟩) 2 2,.int .i64 (-4)]):MdAt w (mpA g0 g1 g2 g3 g4 g5) mdA:=by
 refine⟨⟨fun i hi=> ?_,fun i hi=> ?_⟩,⟨fun i hi=> ?_,fun i hi=> ?_⟩⟩
 ·match i,hi with
  |0,_=>exact⟨g2,0,rfl,(h2.cell 0).trans rfl⟩
  |1,_=>exact⟨g2,0,rfl,(h2.cell 1).trans rfl⟩
 ·match i,hi with
  |0,_=>exact RRow.blk1 h0
  |1,_=>exact RRow.blk1 h1
 ·match i,hi with
  |0,_=>exact⟨g5,0,rfl,(h5.cell 0).trans rfl⟩
  |1,_=>exact⟨g5,0,rfl,(h5.cell 1).trans rfl⟩
  |2,_=>exact⟨g5,0,rfl,(h5.cell 2).trans rfl⟩
  |3,_=>exact⟨g5,0,rfl,(h5.cell 3).trans rfl⟩
 ·match i,hi with
  |0,_=>exact⟨IRow.blkA (l:=[0,1]) h3,IRow.blkA (l:=[-1,-1]) h4⟩
theorem GRow.one {w:World}{g:Nat}{t:TypeId}{q:Rat}{A B:Option Addr}{c d:Nat}(h:Blk w g t (qcs q A c B d))(hq:QR w A c B d q):GRow w (some ⟨g,0,none⟩) ([q].map frq):=fun i hi=>by
 match i,hi with
 |0,_=>exact⟨g,0,rfl,A,c,B,d,(h.cell 0).trans rfl,(h.cell 1).trans rfl,(h.cell 2).trans rfl,(h.cell 3).trans rfl,hq.num,hq.den⟩
theorem caps_A {g0 g1 g2 g3 g4 g5:Nat}:∀i,i<mdA.doms.length→(mdA.doms.getD i []).length≤((mpA g0 g1 g2 g3 g4 g5).ds.getD i ad0).2:=fun i hi=>by
 match i,hi with
 |0,_=>exact Nat.le_refl _
 |1,_=>exact Nat.le_refl _
theorem rlalive_any (w:World):Calls Tryz.prog 8 #[] w fun e w'=>e= .returned (.bool true)∧Below w.heap.size w w':=by
 go_enter Tryz.func8,Tryz.ntmps8;go_upto_region 3 with fail;have M:=((((((((Mem.start w).new 65 #[.int .i64 0,.int .i64 9]).newAt (g:=w.heap.size+1) (by simp) 65 #[.int .i64 0,.int .i64 9]).newAt (g:=w.heap.size+1+1) (by simp) 66 #[.slice (some ⟨w.heap.size,0,none⟩) 1 1,.slice (some ⟨w.heap.size+1,0,none⟩) 1 1]).newAt (g:=w.heap.size+1+1+1) (by simp) 3 #[.int .i64 0,.int .i64 1]).newAt (g:=w.heap.size+1+1+1+1) (by simp) 2 #[.int .i64 (-1),.int .i64 (-1)]).newAt (g:=w.heap.size+1+1+1+1+1) (by simp) 69 #[.int .i64 2,.slice (some ⟨w.heap.size+1+1+1,0,none⟩) 2 2,.slice (some ⟨w.heap.size+1+1+1+1,0,none⟩) 2 2,.int .i64 (-4)]).newAt (g:=w.heap.size+1+1+1+1+1+1) (by simp) 25 #[.slice (some ⟨w.heap.size+1+1,0,none⟩) 2 2,.slice (some ⟨w.heap.size+1+1+1+1+1,0,none⟩) 1 1,.int .i64 1,.int .i64 0]);have HMD:=ZH (md_A (M.k (i:=6) rfl) (M.k (i:=5) rfl) (M.k (i:=4) rfl) (M.k (i:=3) rfl) (M.k (i:=2) rfl) (M.k (i:=1) rfl));have HSZ:=ZH (msmall_sz small_A);have HQ0:=ZH M.bel;obtain⟨m0,m1,m2,m3⟩:=(M.k (i:=0) rfl).four;have M1:=M.rebase;clear M;go_wp2_with fail;have ho:=of_good (Dc:=2) HMD.out HMD.out.ds HSZ.out HSZ.out fit_A;rw[of_A]at ho;refine ho.mono ?_;clear ho;rintro e w1 ⟨q1,mm,rfl,hpg⟩;have HMD1:=ZH (HMD.out.below q1);have HQ1:=ZH (bT HQ0.out q1);have HPG:=ZH hpg;have HK1:=ZH (((M1.k (i:=0) rfl)).below q1 ZL);clear q1 m0 m1 m2 m3 hpg M1 HMD;go_upto_region 4 with fail;have q2:=bA1 w1 (.cells (pgC mm pgA) 31);have hb2:Blk (w1.alloc (.cells (pgC mm pgA) 31)) w1.heap.size 31 (pgC mm pgA):=Blk.new _ _ _;generalize w.heap.size+1+1+1+1+1+1=g6 at*;generalize w.heap.size+1+1+1+1+1=g5 at*;generalize w.heap.size+1+1+1+1=g4 at*;generalize w.heap.size+1+1+1=g3 at*;generalize w.heap.size+1+1=g2 at*;generalize w.heap.size+1=g1 at*;have HQ2:=ZH (bT HQ1.out q2);have HMD2:=ZH (HMD1.out.below q2);have HPG2:=ZH (HPG.out.below q2);have HK2:=ZH (HK1.out.below q2 ZL);have HB2:=ZH hb2;have HLT:=ZH (HK1.out.lt);clear HQ1 HMD1 HPG HK1 q2 hb2;obtain⟨W2,hW2⟩:∃W,W=w1.alloc (.cells (pgC mm pgA) 31):=⟨_,rfl⟩;have hW3:W2=w1.alloc (.cells #[.slice mm.lo.1 pgA.lo.length mm.lo.2,.slice mm.hi.1 pgA.hi.length mm.hi.2,.slice mm.a.1 pgA.a.length mm.a.2,.slice mm.b.1 pgA.b.length mm.b.2,.slice mm.c.1 pgA.c.length mm.c.2] 31):=hW2;rw[←hW2]at HQ2 HMD2 HPG2 HK2 HB2;rw[←hW3];clear hW2 hW3;generalize w1.heap.size=gp at*;refine region_gen0 (n:=10) (frame:= ?frame1) (fun L s w'=>Vs [oF (.agg (mdC (mpA w.heap.size g1 g2 g3 g4 g5) mdA)),oF (.slice (some ⟨g2,0,none⟩) 2 2),none,none,none,none,none,none,none,none] L s∧(L 5=true→s 5=s 4)∧(L 6=true→s 6=exv 0 (s 4))∧(L 7=true→s 7=exv 1 (s 4))∧(L 8=true→s 8=exv 0 (s 4))∧(L 9=true→s 9=exv 1 (s 4))∧(L 2=false→(Below W2.heap.size W2 w'))∧(L 2=true→L 3=false→(Below W2.heap.size W2 w'∧∃A c B d,s 2=qv ((0:Int):Rat) A c B d∧QR w' A c B d ((0:Int):Rat)))∧(L 3=true→L 4=false→(Below W2.heap.size W2 w'∧∃A c B d g,s 3= .slice (some ⟨g,0,none⟩) 1 1∧Blk w' g 72 (qcs ((0:Int):Rat) A c B d)∧QR w' A c B d ((0:Int):Rat)))∧(L 4=true→(∃B cc ds',s 4= .tuple #[.slice B 2 cc,.int .i64 0]∧DsAt w' B ds' [[(0,3)],[(0,9)]]∧Below W2.heap.size W2 w'))) (by kernel_rfl) (by kernel_rfl) (by kernel_rfl) rfl ?_ ?_ ?_ ?_
 case refine_1=>exact⟨fun _ _ _ h=>no_f h,fun h=>no_f h,fun h=>no_f h,fun h=>no_f h,fun h=>no_f h,fun h=>no_f h,fun _=>(Read.refl _).drew.below _,fun h=>no_f h,fun h=>no_f h,fun h=>no_f h⟩
 case refine_2=>
  intro s;simp only[fr,Act.put,zA,zB,zC,zD,zE,zF,Nat.reduceAdd];rfl
 case refine_3=>
  iterate 10 (refine SN ?_ ?_;rotate_left)
  exact Steps.nil;all_goals (intro L s w9 hN hU hi hC hS K hK;dsimp only at hK⊢;simp only[Act.put,zD,zE,zF]at hK;obtain⟨hV,h_5,h_6,h_7,h_8,h_9,c_0,c_1,c_2,c_3⟩:=hS;refine ite_of rfl ?_)
  ·have hE:Below W2.heap.size W2 w9:=(match hL0:L 2 with|false=>(c_0 hL0)|true=>(match hL1:L 3 with|false=>(c_1 hL0 hL1).1|true=>(c_2 hL1 (hU.out 4 _ rfl rfl)).1));obtain⟨u0,u1,u2,u3⟩:=(HK2.out.below hE ZL).four;go_simp;exact hK.out _ _ ⟨hV.put 0,h_5,h_6,h_7,h_8,h_9,c_0,c_1,c_2,c_3⟩
  ·go_simp;exact hK.out _ _ ⟨hV.put 1,h_5,h_6,h_7,h_8,h_9,c_0,c_1,c_2,c_3⟩
  ·have hP:=c_0 hi.out;go_simp;go_at_call 26;refine(pof_any (z:=0) (by decide) (by decide)).mono ?_;rintro e9 w10 ⟨q,A,c,B,d,rfl,hq⟩;exact hK.out _ _ ⟨hV.eff 2,h_5,h_6,h_7,h_8,h_9,fun h=>no_t h,fun _ _=>⟨bT hP q,A,c,B,d,rfl,hq⟩,fun h=>no_f (Eq.trans (Eq.symm (hU.out 3 _ rfl rfl)) h),fun h=>no_f (Eq.trans (Eq.symm (Shut.no hC 4 3 rfl rfl (hU.out 3 _ rfl rfl))) h)⟩
  ·have hP:=c_1 (hN.out 2 rfl) hi.out;obtain⟨hP0,A,c,B,d,e2,hq⟩:=hP;simp only[e2]at hK⊢;go_simp;exact hK.out _ _ ⟨hV.eff 3,h_5,h_6,h_7,h_8,h_9,fun h=>no_f (Eq.trans (Eq.symm h) (hN.out 2 rfl)),fun _ h=>no_t h,fun _ _=>⟨below_alloc hP0 ZL _,A,c,B,d,_,rfl,Blk.new _ _ _,hq.below (bA1 _ _)⟩,fun h=>no_f (Eq.trans (Eq.symm (hU.out 4 _ rfl rfl)) h)⟩
  ·rw[hV.at 0 (hN.out 0 rfl)]at hK⊢;rw[hV.at 1 (hN.out 1 rfl)]at hK⊢;have hP:=c_2 (hN.out 3 rfl) hi.out;obtain⟨hP0,A,c,B,d,g,e3,hb,hq⟩:=hP;simp only[e3]at hK⊢;go_simp;go_at_call 17;have hf:=filter_good (Dc:=2) (c:=1) (n:=1) (limit:=3) (HMD2.out.below hP0) (HMD2.out.below hP0).ds HSZ.out HSZ.out caps_A (GRow.one hb hq) (fun x hx=>by rw[List.mem_singleton.1 hx];exact hq.few) rfl fit_A (by decide) (by decide) nb_A;rw[filter_A]at hf;refine hf.mono ?_;rintro e9 w10 ⟨q9,B',cc,ds',rfl,hds⟩;exact hK.out _ _ ⟨hV.eff 4,fun h=>no_f (Eq.trans (Eq.symm (hU.out 5 _ rfl rfl)) h),fun h=>no_f (Eq.trans (Eq.symm (Shut.no hC 6 5 rfl rfl (hU.out 5 _ rfl rfl))) h),fun h=>no_f (Eq.trans (Eq.symm (Shut.no hC 7 5 rfl rfl (hU.out 5 _ rfl rfl))) h),fun h=>no_f (Eq.trans (Eq.symm (Shut.no hC 8 6 rfl rfl (Shut.no hC 6 5 rfl rfl (hU.out 5 _ rfl rfl)))) h),fun h=>no_f (Eq.trans (Eq.symm (Shut.no hC 9 7 rfl rfl (Shut.no hC 7 5 rfl rfl (hU.out 5 _ rfl rfl)))) h),fun h=>no_f (Eq.trans (Eq.symm h) (hC.out 3 _ rfl (hN.out 3 rfl) 2 rfl)),fun _ h=>no_f (Eq.trans (Eq.symm h) (hN.out 3 rfl)),fun _ h=>no_t h,fun _=>⟨B',cc,ds',rfl,hds,bT hP0 q9⟩⟩
  ·have hP:=c_3 (hN.out 4 rfl);obtain⟨B,cc,ds',eM,_⟩:=hP;simp only[eM]at hK⊢;go_simp;refine hK.out _ _ ?_;exact⟨hV.eff 5,fun _=>(by show _=s 4;rw[eM];rfl),h_6,h_7,h_8,h_9,c_0,c_1,c_2,c_3⟩
  ·rw[h_5 (hN.out 5 rfl)]at hK⊢;have hP:=c_3 (hC.out 5 _ rfl (hN.out 5 rfl) 4 rfl);obtain⟨B,cc,ds',eM,_⟩:=hP;simp only[eM]at hK⊢;go_simp;refine hK.out _ _ ?_;exact⟨hV.eff 6,h_5,fun _=>(by show _=exv 0 (s 4);rw[eM];rfl),h_7,h_8,h_9,c_0,c_1,c_2,c_3⟩
  ·rw[h_5 (hN.out 5 rfl)]at hK⊢;have hP:=c_3 (hC.out 5 _ rfl (hN.out 5 rfl) 4 rfl);obtain⟨B,cc,ds',eM,_⟩:=hP;simp only[eM]at hK⊢;go_simp;refine hK.out _ _ ?_;exact⟨hV.eff 7,h_5,h_6,fun _=>(by show _=exv 1 (s 4);rw[eM];rfl),h_8,h_9,c_0,c_1,c_2,c_3⟩
  ·rw[h_6 (hN.out 6 rfl)]at hK⊢;go_simp;exact hK.out _ _ ⟨hV.eff 8,h_5,h_6,h_7,fun _=>rfl,h_9,c_0,c_1,c_2,c_3⟩
  ·rw[h_7 (hN.out 7 rfl)]at hK⊢;go_simp;exact hK.out _ _ ⟨hV.eff 9,h_5,h_6,h_7,h_8,fun _=>rfl,c_0,c_1,c_2,c_3⟩
 intro L s w9 hall hS;obtain⟨hV,h_5,h_6,h_7,h_8,h_9,c_0,c_1,c_2,c_3⟩:=hS;have hPm:=c_3 (hall 4 (by decide));have e9_8:=h_8 (hall 8 (by decide));have e9_9:=h_9 (hall 9 (by decide));clear hall hV h_5 h_6 h_7 h_8 h_9 c_0 c_1 c_2 c_3;obtain⟨B,cc,ds',e4,hds,hq4⟩:=hPm;rw[e4]at e9_8 e9_9;rw[exv_0]at e9_8;rw[exv_1]at e9_9;simp only[e9_8,e9_9];have HQ4:=ZH (bT HQ2.out hq4);have HMD4:=ZH (HMD2.out.below hq4);have HPG4:=ZH (HPG2.out.below hq4);have HK4:=ZH (HK2.out.below hq4 ZL);have HB4:=ZH (HB2.out.below hq4 ZL);have HDS4:=ZH hds;clear HQ2 HMD2 HPG2 HK2 HB2 hq4 hds e9_8 e9_9 e4;obtain⟨m0,m1,m2,m3⟩:=HK4.out.four;go_wp2_with fail;have hp:=prune_core (n:=100) (Dc:=2) (limit:= -1) HMD4.out HMD4.out.ds HSZ.out HSZ.out caps_A fit_A (by decide) (by decide) solc_A;rw[prune_A]at hp;refine hp.mono ?_;clear hp;rintro e w5 ⟨q5,B5,c5,ds5,rfl,_⟩;have HQ5:=ZH (bT HQ4.out q5);have hpg5:=HPG4.out.below q5;obtain⟨f0,f1,f2,f3,f4⟩:=(HB4.out.below q5 ZL).fiveP;have hds5:=HDS4.out.below q5;obtain⟨gb,ob,hbA,cb⟩:=hpg5.b 0 (by decide);obtain⟨gx,ox,hxA,cx⟩:=hds5.ap 0 (by decide);have HRX:=ZH (hds5.ar 0 (by decide));have HCC:=ZH hpg5.c;replace cb:w5.cell? ⟨gb,ob,none⟩=some (.int .i64 (-4)):=cb;replace cx:w5.cell? ⟨gx,ox,none⟩=some (.slice (ds'.getD 0 ad0).1 1 (ds'.getD 0 ad0).2):=cx;rw[hbA]at f3;replace f2:w5.cell? ⟨gp,2,none⟩=some (.slice mm.a.1 1 mm.a.2):=f2;replace f3:w5.cell? ⟨gp,3,none⟩=some (.slice (some ⟨gb,ob,none⟩) 1 mm.b.2):=f3;replace f4:w5.cell? ⟨gp,4,none⟩=some (.slice mm.c.1 2 mm.c.2):=f4;subst hxA;have CX:=Lk.of cx;clear hbA hpg5 hds5 q5 m0 m1 m2 m3 f0 f1 HPG4 HB4 HDS4 HK4 HMD4;go_wp2_with fail;have MC:=(Mem.start w5).new 2 #[.int .i64 1,.int .i64 0];have HQ6:=ZH (bT HQ5.out MC.bel);have cx6:=CX _ MC.bel;refine(nums_any (l:=[1,0]) (HCC.out.below MC.bel) (IRow.blkA (l:=[1,0]) (MC.k (i:=0) rfl)) rfl (by decide)).mono ?_;rintro e w6 ⟨rfl,q6⟩;have cx7:=CX _ (bT MC.bel q6);have HQ7:=ZH (bT HQ6.out q6);have HRX7:=ZH ((HRX.out.below MC.bel).below q6);clear q6 MC cx6 HQ6 cb cx f2 f3 f4;go_wp2_with fail;have MR:=(Mem.start w6).new 65 #[.int .i64 0,.int .i64 3];refine(ranges_any (l:=[(0,3)]) (HRX7.out.below MR.bel) (RRow.blk1 (MR.k (i:=0) rfl)) rfl (by decide)).mono ?_;rintro e w8 ⟨rfl,q8⟩;have HQ8:=ZH (bT (bT HQ7.out MR.bel) q8);clear q8 MR cx7;go_wp2_with fail;exact bodyPost_ret (v:= .bool true) (by simp[results,Tryz.results8,go_sem]) rfl ⟨rfl,HQ8.out⟩
theorem cutS_step {l:List (Int×Int)}{j:Nat}(h:j<l.length)(lo hi:Int):(l.drop j).filterMap (meetR lo hi)=(match meetR lo hi (l.getD j (0,0)) with|none=>(l.drop (j+1)).filterMap (meetR lo hi)|some r=>r::(l.drop (j+1)).filterMap (meetR lo hi)):=by
 rw[drop_at (z:=(0,0)) h,List.filterMap_cons];cases meetR lo hi (l.getD j (0,0))<;>rfl
theorem rcut9_any {w:World}{A:Option Addr}{c:Nat}{l:List (Int×Int)}{lo hi:Int}(h:RRow w A l)(hs:l.length≤100000)(hset:setB l=true):Calls Tryz.prog 86 #[.slice A l.length c,.int .i64 lo,.int .i64 hi] w fun e w'=>∃B d,e= .returned (.slice B (l.filterMap (meetR lo hi)).length d)∧RRow w' B (l.filterMap (meetR lo hi))∧Below w.heap.size w w':=by
 have HI:=ZH h;have HRT:=ZH (rset_any (c:=c) h (by omega));rw[hset]at HRT;obtain⟨S,hS⟩:∃S,l.filterMap (meetR lo hi)=S:=⟨_,rfl⟩;have HS:Hid (S=[]++(l.drop 0).filterMap (meetR lo hi)):=hS.symm;rw[hS];clear hS h;obtain⟨n,hn⟩:∃n,l.length=n:=⟨_,rfl⟩;have HN:=ZH hn;rw[hn]at hs HRT⊢;clear hn hset;go_enter Tryz.func86,Tryz.ntmps86;go_wp2_with fail;refine HRT.out.mono ?_;rintro e w2 ⟨rfl,q2⟩;obtain⟨W0,hW0⟩:∃W,W=w2:=⟨_,rfl⟩;subst hW0;have HQ2:=ZH q2;clear q2 HRT;go_wp2_with fail;go_loopg [8,7] n (fun kk pp vv wr=>∃(j:Nat)(A2:Option Addr)(c2:Nat)(done:List (Int×Int)),kk=n-j∧j≤n∧pp= .int .i64 (j:Nat)∧vv= .slice A2 done.length c2∧Hid (S=done++(l.drop j).filterMap (meetR lo hi))∧done.length≤j∧Hid (NRow wr W0.heap.size tyRg 2 (.slice A2 done.length c2) done.length (flatR done))∧Hid (Below W0.heap.size W0 wr))
 case atStart=>exact⟨0,none,0,[],rfl,Nat.zero_le _,rfl,rfl,HS.out,Nat.le_refl _,NRow.nil _ _ _ _,Below.refl _ _⟩
 case round=>
  clear HS;obtain⟨j,A2,c2,done,hkk,hj,rfl,rfl,HL,hdj,HN2,HQW⟩:=hrel;by_cases hlt:j<n
  ·have d1:decide ((j:Int)<(n:Int))=true:=dT (by omega);have hjl:j<l.length:=by rw[HN.out];exact hlt
   obtain⟨g,o,hB,c0,c1⟩:=(HI.out.below (bT HQ2.out HQW.out)).at hjl;have HBB:=ZH hB;rw[hB];have HC:=ZH (HL.out.trans (by rw[cutS_step hjl]));replace HC:Hid (S=done++(match meetR lo hi (l.getD j (0,0)) with|none=>(l.drop (j+1)).filterMap (meetR lo hi)|some r=>r::(l.drop (j+1)).filterMap (meetR lo hi))):=HC;generalize l.getD j (0,0)=r at*;obtain⟨ra,rb⟩:=r;have CL:Lk wr g (o+j*2) (.int .i64 ra):=Lk.of c0;have CH:Lk wr g (o+j*2+1) (.int .i64 rb):=Lk.of c1;clear HL hB hjl c0 c1;go_upto_region 7 with fail;refine region_gen0 (n:=17) (frame:= ?frame1) (fun L s w'=>Vs [oI lo,oF (.slice (some ⟨g,o,none⟩) n c),oI ((j:Nat)),oP g (o+j*2),oP g (o+j*2),oI ra,oI ((max lo ra)),oI hi,oF (.slice (some ⟨g,o,none⟩) n c),oI ((j:Nat)),oP g (o+j*2),oP g (o+j*2+1),oI rb,oI ((min hi rb)),oF (.agg #[.int .i64 (max lo ra),.int .i64 (min hi rb)]),none,none] L s∧(L 15=false→(Below wr.heap.size wr w'))∧(L 15=true→L 16=false→(Below wr.heap.size wr w'∧∃g',s 15= .pointer (some ⟨g',0,none⟩)∧Blk w' g' tyRg #[.int .i64 0,.int .i64 0]∧wr.heap.size≤g'))∧(L 16=true→(∃g',s 15= .pointer (some ⟨g',0,none⟩)∧Blk w' g' tyRg #[.int .i64 (max lo ra),.int .i64 (min hi rb)]∧Below wr.heap.size wr w'))) (by kernel_rfl) (by kernel_rfl) (by kernel_rfl) rfl ?_ ?_ ?_ ?_
   case refine_1=>exact⟨fun _ _ _ h=>no_f h,fun _=>(Read.refl _).drew.below _,fun h=>no_f h,fun h=>no_f h⟩
   case refine_2=>
    intro s;simp only[fr,Act.put,zA,zB,zC,zD,zE,zF,Nat.reduceAdd];rfl
   case refine_3=>
    iterate 17 (refine SN ?_ ?_;rotate_left)
    exact Steps.nil;all_goals (intro L s w9 hN hU hi hC hS K hK;dsimp only at hK⊢;simp only[Act.put,zD,zE,zF]at hK;obtain⟨hV,c_0,c_1,c_2⟩:=hS;refine ite_of rfl ?_)
    ·go_simp;exact hK.out _ _ ⟨hV.put 0,c_0,c_1,c_2⟩
    ·go_simp;exact hK.out _ _ ⟨hV.put 1,c_0,c_1,c_2⟩
    ·go_simp;exact hK.out _ _ ⟨hV.put 2,c_0,c_1,c_2⟩
    ·rw[hV.at 1 (hN.out 1 rfl)]at hK⊢;rw[hV.at 2 (hN.out 2 rfl)]at hK⊢;go_simp;exact hK.out _ _ ⟨hV.put 3,c_0,c_1,c_2⟩
    ·rw[hV.at 3 (hN.out 3 rfl)]at hK⊢;go_simp;exact hK.out _ _ ⟨hV.put 4,c_0,c_1,c_2⟩
    ·rw[hV.at 4 (hN.out 4 rfl)]at hK⊢;have hE:Below wr.heap.size wr w9:=(match hL0:L 15 with|false=>(c_0 hL0)|true=>(c_1 hL0 (Shut.no hC 16 14 rfl rfl (Shut.no hC 14 6 rfl rfl (hU.out 6 _ rfl rfl)))).1);have u0:=CL _ hE;go_simp;exact hK.out _ _ ⟨hV.put 5,c_0,c_1,c_2⟩
    ·rw[hV.at 0 (hN.out 0 rfl)]at hK⊢;rw[hV.at 5 (hN.out 5 rfl)]at hK⊢;go_simp;exact hK.out _ _ ⟨hV.put 6,c_0,c_1,c_2⟩
    ·go_simp;exact hK.out _ _ ⟨hV.put 7,c_0,c_1,c_2⟩
    ·go_simp;exact hK.out _ _ ⟨hV.put 8,c_0,c_1,c_2⟩
    ·go_simp;exact hK.out _ _ ⟨hV.put 9,c_0,c_1,c_2⟩
    ·rw[hV.at 8 (hN.out 8 rfl)]at hK⊢;rw[hV.at 9 (hN.out 9 rfl)]at hK⊢;go_simp;exact hK.out _ _ ⟨hV.put 10,c_0,c_1,c_2⟩
    ·rw[hV.at 10 (hN.out 10 rfl)]at hK⊢;go_simp;exact hK.out _ _ ⟨hV.put 11,c_0,c_1,c_2⟩
    ·rw[hV.at 11 (hN.out 11 rfl)]at hK⊢;have hE:Below wr.heap.size wr w9:=(match hL0:L 15 with|false=>(c_0 hL0)|true=>(c_1 hL0 (Shut.no hC 16 14 rfl rfl (Shut.no hC 14 13 rfl rfl (hU.out 13 _ rfl rfl)))).1);have u0:=CH _ hE;go_simp;exact hK.out _ _ ⟨hV.put 12,c_0,c_1,c_2⟩
    ·rw[hV.at 7 (hN.out 7 rfl)]at hK⊢;rw[hV.at 12 (hN.out 12 rfl)]at hK⊢;go_simp;exact hK.out _ _ ⟨hV.put 13,c_0,c_1,c_2⟩
    ·rw[hV.at 6 (hN.out 6 rfl)]at hK⊢;rw[hV.at 13 (hN.out 13 rfl)]at hK⊢;go_simp;exact hK.out _ _ ⟨hV.put 14,c_0,c_1,c_2⟩
    ·have hP:=c_0 hi.out;go_simp;exact hK.out _ _ ⟨hV.eff 15,fun h=>no_t h,fun _ _=>⟨below_alloc hP ZL _,_,rfl,Blk.new _ _ _,hP.size⟩,fun h=>no_f (Eq.trans (Eq.symm (hU.out 16 _ rfl rfl)) h)⟩
    ·rw[hV.at 14 (hN.out 14 rfl)]at hK⊢;have hP:=c_1 (hN.out 15 rfl) hi.out;obtain⟨hP0,g',e15,hb,hgl⟩:=hP;have E15:=ZH e15;simp only[e15]at hK⊢;refine wp_store_row _ _ _ rfl g' _ rfl rfl _ _ hb info_range rfl (by rw[←Array.all_toList];rfl) ?_;exact hK.out undef _ ⟨hV.eff 16,fun h=>no_f (Eq.trans (Eq.symm h) (hN.out 15 rfl)),fun _ h=>no_t h,fun _=>⟨g',E15.out,hb.row _,below_own hP0 (sRG _ _ _) hgl⟩⟩
   intro L s w9 hall hS;obtain⟨hV,c_0,c_1,c_2⟩:=hS;have hPm:=c_2 (hall 16 (by decide));clear hall hV c_0 c_1 c_2;obtain⟨g',e15,hb,hq9⟩:=hPm;simp only[e15];have HQW6:=ZH (HQW.out.trans (hq9.mono HQW.out.size));have HN6:=ZH (HN2.out.below hq9);have hwb:=HQW6.out.size;have hdl:done.length≤1000000:=by omega
   have y0:=(hb.cell 0).trans rfl;have y1:=(hb.cell 1).trans rfl;obtain⟨W6,hW6⟩:∃W,W=w9:=⟨_,rfl⟩;subst hW6;clear HQW HN2 hb hq9 CL CH;by_cases h2:max lo ra≤min hi rb
   ·have d3:decide (max lo ra≤min hi rb)=true:=dT h2;have HE:Hid (S=(done++[(max lo ra,min hi rb)])++(l.drop (j+1)).filterMap (meetR lo hi)):=HC.out.trans (by
     unfold meetR;dsimp only;rw[if_pos (by omega),List.append_assoc,Int.max_comm ra lo,Int.min_comm rb hi];rfl)
    generalize max lo ra=na at*;generalize min hi rb=nb at*;clear h2 HC;go_wp2_with (at_builtin;refine wp_appNu _ _ W6 W0.heap.size tyRg 2 (.slice A2 done.length c2) done.length (flatR done) #[iw na,iw nb] (by first|rfl|simp) Tryz.underlying66 info_rgz rfl rfl (by decide) (by decide) HN6.out hwb hdl rfl rfl rfl rfl rfl rfl rfl ?_;intro v7 w7 r1 r2 r3 r4;obtain⟨A7,c7,rfl⟩:=r1.slice);rw[←HBB.out];go_roundg (n-(j+1))
    case measure=>omega
    case rel=>
     have hl7:(done++[(na,nb)]).length=done.length+1:=by rw[List.length_append];rfl
     exact⟨j+1,A7,c7,done++[(na,nb)],rfl,by omega,by simp,by rw[hl7],HE.out,by omega,(by rw[hl7,flatR_app];exact r1),HQW6.out.trans r3⟩
   ·have d3:decide (max lo ra≤min hi rb)=false:=dF h2;have HE:Hid (S=done++(l.drop (j+1)).filterMap (meetR lo hi)):=HC.out.trans (by
     unfold meetR;dsimp only;rw[if_neg (by omega)])
    generalize max lo ra=na at*;generalize min hi rb=nb at*;clear h2 HC;go_wp2_with fail;rw[←HBB.out];go_roundg (n-(j+1))
    case measure=>omega
    case rel=>exact⟨j+1,A2,c2,done,rfl,by omega,by simp,rfl,HE.out,by omega,HN6.out,HQW6.out⟩
  ·have d1:decide ((j:Int)<(n:Int))=false:=dF (by omega);have HE:Hid (S=done):=HL.out.trans (by rw[List.drop_eq_nil_of_le (by rw[HN.out];omega)];exact List.append_nil _);go_wp2_with fail;exact bodyPost_ret (v:= .slice A2 done.length c2) (by simp[results,Tryz.results86,go_sem]) rfl ⟨A2,c2,by rw[HE.out],by rw[HE.out];exact HN2.out.rrow,bT HQ2.out HQW.out⟩
def ROwn (w:World)(base:Nat)(v:Value)(l:List (Int×Int)):Prop:=w.ownsRow base tyRg 2 v l.length (flatR l)
theorem ROwn.nil (w:World)(base:Nat):ROwn w base (.slice none 0 0) []:=World.ownsRow_nil w base _ 2
theorem ROwn.slice {w:World}{base:Nat}{v:Value}{l:List (Int×Int)}(h:ROwn w base v l):∃A c,v= .slice A l.length c:=by
 rcases h.2 with ⟨rfl,h2⟩|⟨g,cap,cur,rfl,_⟩
 ·exact⟨none,0,by rw[h2]⟩
 ·exact⟨_,_,rfl⟩
theorem ROwn.below {w w':World}{base:Nat}{v:Value}{l:List (Int×Int)}(h:ROwn w base v l)(q:Below w.heap.size w w'):ROwn w' base v l:=
 World.ownsRow.kept h (grown_of_below q) (Classical.em _)
theorem flatR_add:∀l k:List (Int×Int),flatR (l++k)=flatR l++flatR k
 |[],k=>rfl
 |x::l,k=>by
  show iw x.1::iw x.2::flatR (l++k)=_;rw[flatR_add l k];rfl
theorem wp_appR_op {o:Oper}{a:Act}{KK:Act→World→Prop}{Q:Exit→Act→World→Prop}(s x:Operand)(w:World)(base:Nat)(v:Value)(xs:List (Int×Int))(A:Option Addr)(l:List (Int×Int))(c:Nat)(hown:ROwn w base v xs)(hr:RRow w A l)(hb:base≤w.heap.size)(hlen:xs.length≤1000000)(hl:l.length≤1000000)(ho:o.op= .call {callee:= .builtin .append,args:= #[s,x],argTypes:= #[66,66]})(hs:a.eval s=v)(hx:a.eval x= .slice A l.length c)(K:∀v' w',ROwn w' base v' (xs++l)→Below base w w'→KK (a.put o.dst v') w'):o.wp Tryz.prog a w KK Q:=by
 obtain⟨i0,hi,hz0,hz1,hz2⟩:=info_parts info_rgz;have hu:Tryz.prog.underlying 66=some (.slice tyRg):=Tryz.underlying66;have key:∃v' w',(Builtin.append_ #[66,66] o.type #[v,.slice A l.length c]).run Tryz.prog w= .ok v' w'∧ROwn w' base v' (xs++l)∧Below base w w':=by
  cases l with
  |nil=>
   rw[List.append_nil];have hsrc:Src Tryz.prog i0.size 66 (.slice A 0 c) 0 [] w:=by
    cases A with
    |none=>exact Src.ofNil w hu c
    |some ad=>exact Src.ofSlice w hu ad 0 c [] (by simp) (fun j u h=>by cases h) (fun u h=>by cases h)
   rcases hown.2 with ⟨rfl,h2⟩|⟨g,cap,cur,rfl,_,_,hnc,_⟩
   ·exact⟨_,w,run_append_nothing w _ _ _ _ i0 hu hi none 0 0 ZL _ hsrc,hown,Below.refl _ _⟩
   ·exact⟨_,w,run_append_nothing w _ _ _ _ i0 hu hi _ _ _ hnc _ hsrc,hown,Below.refl _ _⟩
  |cons z l=>
   obtain⟨g,off,rfl,_⟩:=hr 0 (by simp);obtain⟨v',w',hr2,r1,r2,_⟩:=run_append_own (P:=Tryz.prog) w base 66 o.type tyRg i0 _ 2 16 hu hi hz0 hz1 hz2 rfl (by decide) v xs.length (flatR xs) hown ⟨g,off,none⟩ (z::l).length c (flatR (z::l)) (flatR_len _) (fun j u hj=>hr.cells j u hj) (flatR_one _) (by unfold maxLen;omega) (by omega) hb;refine⟨v',w',hr2,?_,(Below.refl base w).grown r2 hb (fun k hk=>(World.ownsRow.lt hown k hk).1)⟩;unfold ROwn;rw[List.length_append,flatR_add];exact r1
 obtain⟨v',w',hr,h1,h2⟩:=key;unfold Oper.wp execOp;simp only[ho,resolve,invoke,builtin,Sem.run_bind,Sem.run_pure,Result.andThen_ok,List.map_toArray,List.map_cons,List.map_nil,hs,hx,hr];exact K v' w' h1 h2
theorem meet_step {a b:List (Int×Int)}{j:Nat}(h:j<b.length):(b.drop j).flatMap (fun r=>a.filterMap (meetR r.1 r.2))=a.filterMap (meetR (b.getD j (0,0)).1 (b.getD j (0,0)).2)++(b.drop (j+1)).flatMap (fun r=>a.filterMap (meetR r.1 r.2)):=by
 rw[drop_at (z:=(0,0)) h];rfl
theorem rmeet_any {w:World}{A B:Option Addr}{c d:Nat}{a b:List (Int×Int)}(h:RRow w A a)(k:RRow w B b)(hs:a.length≤1000)(hs2:b.length≤1000)(hsa:setB a=true)(hsb:setB b=true):Calls Tryz.prog 49 #[.slice A a.length c,.slice B b.length d] w fun e w'=>∃C f,e= .returned (.slice C (meetS a b).length f)∧RRow w' C (meetS a b)∧Below w.heap.size w w':=by
 have HA:=ZH h;have HB:=ZH k;have HR1:=ZH fun(w':World)(q:Below w.heap.size w w')=>rset_any (c:=c) (h.below q) (by omega);have HR2:=ZH fun(w':World)(q:Below w.heap.size w w')=>rset_any (c:=d) (k.below q) (by omega);rw[hsa]at HR1;rw[hsb]at HR2;have HCUT:=ZH fun(w':World)(lo hi:Int)(q:Below w.heap.size w w')=>rcut9_any (c:=c) (lo:=lo) (hi:=hi) (h.below q) (by omega) hsa;have HLE:Hid (∀lo hi,(a.filterMap (meetR lo hi)).length≤a.length):=fun lo hi=>List.length_filterMap_le ..;obtain⟨S,hS⟩:∃S,meetS a b=S:=⟨_,rfl⟩;have HS:Hid (S=[]++(b.drop 0).flatMap (fun r=>a.filterMap (meetR r.1 r.2))):=by
  show _=_;rw[←hS];unfold meetS;rw[hsa,hsb];rfl
 rw[hS];clear hS h k hsa hsb;obtain⟨n,hn⟩:∃n,a.length=n:=⟨_,rfl⟩;obtain⟨m,hm⟩:∃m,b.length=m:=⟨_,rfl⟩;have HN:=ZH hm;rw[hn]at hs HR1 HCUT HLE⊢;rw[hm]at hs2 HR2⊢;clear hn hm;go_enter Tryz.func49,Tryz.ntmps49;go_wp2_with fail;refine(HR1.out _ (Below.refl _ _)).mono ?_;rintro e w1 ⟨rfl,q1⟩;have HQ1:=ZH q1;clear q1;go_wp2_with fail;refine(HR2.out _ HQ1.out).mono ?_;rintro e w2 ⟨rfl,q2⟩;obtain⟨W0,hW0⟩:∃W,W=w2:=⟨_,rfl⟩;subst hW0;have HQ2:=ZH (bT HQ1.out q2);clear q2 HR1 HR2 HQ1;go_wp2_with fail;go_loopg [6,5] m (fun kk pp vv wr=>∃(j:Nat)(A2:Option Addr)(c2:Nat)(done:List (Int×Int)),kk=m-j∧j≤m∧pp= .int .i64 (j:Nat)∧vv= .slice A2 done.length c2∧Hid (S=done++(b.drop j).flatMap (fun r=>a.filterMap (meetR r.1 r.2)))∧done.length≤j*n∧Hid (ROwn wr W0.heap.size (.slice A2 done.length c2) done)∧Hid (Below W0.heap.size W0 wr))
 case atStart=>exact⟨0,none,0,[],rfl,Nat.zero_le _,rfl,rfl,HS.out,Nat.zero_le _,ROwn.nil _ _,Below.refl _ _⟩
 case round=>
  clear HS;obtain⟨j,A2,c2,done,hkk,hj,rfl,rfl,HL,hdj,HO,HQW⟩:=hrel;by_cases hlt:j<m
  ·have d1:decide ((j:Int)<(m:Int))=true:=dT (by omega);have hjl:j<b.length:=by rw[HN.out];exact hlt
   obtain⟨g,o,hB,c0,c1⟩:=(HB.out.below (bT HQ2.out HQW.out)).at hjl;have HBB:=ZH hB;rw[hB];have HC:=ZH (HL.out.trans (by rw[meet_step hjl]));replace HC:Hid (S=done++(a.filterMap (meetR (b.getD j (0,0)).1 (b.getD j (0,0)).2)++(b.drop (j+1)).flatMap (fun r=>a.filterMap (meetR r.1 r.2)))):=HC;generalize b.getD j (0,0)=r at*;obtain⟨ra,rb⟩:=r;have CL:Lk wr g (o+j*2) (.int .i64 ra):=Lk.of c0;have CH:Lk wr g (o+j*2+1) (.int .i64 rb):=Lk.of c1;have hw0:=HQW.out.size;have hmul:j*n≤1000*1000:=Nat.mul_le_mul (by omega) hs;have HLX:=HLE.out ra rb;obtain⟨X,hX⟩:∃X,a.filterMap (meetR ra rb)=X:=⟨_,rfl⟩;have HCU:=ZH fun(w':World)(q:Below w.heap.size w w')=>HCUT.out w' ra rb q;replace HC:Hid (S=done++(a.filterMap (meetR ra rb)++(b.drop (j+1)).flatMap (fun r=>a.filterMap (meetR r.1 r.2)))):=HC;rw[hX]at HCU HLX HC;clear HL hB hjl c0 c1 hX;go_upto_region 7 with fail;refine region_gen0 (n:=15) (frame:= ?frame2) (fun L s w'=>Vs [oF (.slice A2 done.length c2),oF (.slice A n c),oF (.slice (some ⟨g,o,none⟩) m d),oI ((j:Nat)),oP g (o+j*2),oP g (o+j*2),oI ra,oF (.slice (some ⟨g,o,none⟩) m d),oI ((j:Nat)),oP g (o+j*2),oP g (o+j*2+1),oI rb,none,none,none] L s∧(L 14=true→s 14=s 13)∧(L 12=false→(Below wr.heap.size wr w'))∧(L 12=true→L 13=false→(Below wr.heap.size wr w'∧∃B' d',s 12= .slice B' X.length d'∧RRow w' B' X))∧(L 13=true→(∃A9 c9 dx,Hid (done++X=dx)∧s 13= .slice A9 dx.length c9∧ROwn w' W0.heap.size (.slice A9 dx.length c9) dx∧Below W0.heap.size W0 w'))∧(L 14=false→s 14= .slice A2 done.length c2)) (by kernel_rfl) (by kernel_rfl) (by kernel_rfl) rfl ?_ ?_ ?_ ?_
   case refine_1=>exact⟨fun _ _ _ h=>no_f h,fun h=>no_f h,fun _=>(Read.refl _).drew.below _,fun h=>no_f h,fun h=>no_f h,fun _=>rfl⟩
   case refine_2=>
    intro s;simp only[fr,Act.put,zA,zB,zC,zD,zE,zF,Nat.reduceAdd];rfl
   case refine_3=>
    iterate 15 (refine SN ?_ ?_;rotate_left)
    exact Steps.nil;all_goals (intro L s w9 hN hU hi hC hS K hK;dsimp only at hK⊢;simp only[Act.put,zD,zE,zF]at hK;obtain⟨hV,h_14,c_0,c_1,c_2,i_14⟩:=hS;refine ite_of rfl ?_)
    ·have i9_14:=i_14 (Shut.no hC 14 13 rfl rfl (hU.out 13 _ rfl rfl));simp only[i9_14]at hK⊢;go_simp;exact hK.out _ _ ⟨hV.put 0,h_14,c_0,c_1,c_2,i_14⟩
    ·go_simp;exact hK.out _ _ ⟨hV.put 1,h_14,c_0,c_1,c_2,i_14⟩
    ·go_simp;exact hK.out _ _ ⟨hV.put 2,h_14,c_0,c_1,c_2,i_14⟩
    ·go_simp;exact hK.out _ _ ⟨hV.put 3,h_14,c_0,c_1,c_2,i_14⟩
    ·rw[hV.at 2 (hN.out 2 rfl)]at hK⊢;rw[hV.at 3 (hN.out 3 rfl)]at hK⊢;go_simp;exact hK.out _ _ ⟨hV.put 4,h_14,c_0,c_1,c_2,i_14⟩
    ·rw[hV.at 4 (hN.out 4 rfl)]at hK⊢;go_simp;exact hK.out _ _ ⟨hV.put 5,h_14,c_0,c_1,c_2,i_14⟩
    ·rw[hV.at 5 (hN.out 5 rfl)]at hK⊢;have hE:Below wr.heap.size wr w9:=(c_0 (hU.out 12 _ rfl rfl));have u0:=CL _ hE;go_simp;exact hK.out _ _ ⟨hV.put 6,h_14,c_0,c_1,c_2,i_14⟩
    ·go_simp;exact hK.out _ _ ⟨hV.put 7,h_14,c_0,c_1,c_2,i_14⟩
    ·go_simp;exact hK.out _ _ ⟨hV.put 8,h_14,c_0,c_1,c_2,i_14⟩
    ·rw[hV.at 7 (hN.out 7 rfl)]at hK⊢;rw[hV.at 8 (hN.out 8 rfl)]at hK⊢;go_simp;exact hK.out _ _ ⟨hV.put 9,h_14,c_0,c_1,c_2,i_14⟩
    ·rw[hV.at 9 (hN.out 9 rfl)]at hK⊢;go_simp;exact hK.out _ _ ⟨hV.put 10,h_14,c_0,c_1,c_2,i_14⟩
    ·rw[hV.at 10 (hN.out 10 rfl)]at hK⊢;have hE:Below wr.heap.size wr w9:=(c_0 (hU.out 12 _ rfl rfl));have u0:=CH _ hE;go_simp;exact hK.out _ _ ⟨hV.put 11,h_14,c_0,c_1,c_2,i_14⟩
    ·rw[hV.at 1 (hN.out 1 rfl)]at hK⊢;rw[hV.at 6 (hN.out 6 rfl)]at hK⊢;rw[hV.at 11 (hN.out 11 rfl)]at hK⊢;have hP:=c_0 hi.out;go_simp;go_at_call 86;refine(HCU.out _ (bT HQ2.out (HQW.out.trans (hP.mono hw0)))).mono ?_;rintro e9 w10 ⟨B',d',rfl,hr9,q9⟩;exact hK.out _ _ ⟨hV.eff 12,h_14,fun h=>no_t h,fun _ _=>⟨bT hP q9,B',d',rfl,hr9⟩,fun h=>no_f (Eq.trans (Eq.symm (hU.out 13 _ rfl rfl)) h),i_14⟩
    ·rw[hV.at 0 (hN.out 0 rfl)]at hK⊢;have hP:=c_1 (hN.out 12 rfl) hi.out;obtain⟨hP0,B',d',e12,hr9⟩:=hP;simp only[e12]at hK⊢;refine wp_appR_op _ _ w9 W0.heap.size (.slice A2 done.length c2) done B' X d' (HO.out.below hP0) hr9 (Nat.le_trans hw0 hP0.size) (by omega) (by omega) rfl rfl rfl ?_;intro v9 w10 ho9 hb9;obtain⟨dx,hdx⟩:∃dx,done++X=dx:=⟨_,rfl⟩;rw[hdx]at ho9;have HDX:=ZH hdx;clear hdx;obtain⟨A9,c9,rfl⟩:=ho9.slice;exact hK.out _ _ ⟨hV.eff 13,fun h=>no_f (Eq.trans (Eq.symm (hU.out 14 _ rfl rfl)) h),fun h=>no_f (Eq.trans (Eq.symm h) (hN.out 12 rfl)),fun _ h=>no_t h,fun _=>⟨A9,c9,dx,HDX.out,rfl,ho9,(HQW.out.trans (hP0.mono hw0)).trans hb9⟩,i_14⟩
    ·have hP:=c_2 (hN.out 13 rfl);obtain⟨A9,c9,dx,_,eM,_⟩:=hP;simp only[eM]at hK⊢;go_simp;refine hK.out _ _ ?_;exact⟨hV.eff 14,fun _=>(by show _=s 13;rw[eM];rfl),c_0,c_1,c_2,fun h=>no_t h⟩
   intro L s w9 hall hS;obtain⟨hV,h_14,c_0,c_1,c_2,i_14⟩:=hS;have hPm:=c_2 (hall 13 (by decide));have e9_14:=h_14 (hall 14 (by decide));clear hall hV h_14 c_0 c_1 c_2 i_14;obtain⟨A9,c9,dx,HDX,e13,ho9,hb9⟩:=hPm;rw[e13]at e9_14;simp only[e9_14];have HO9:=ZH ho9;have HB9:=ZH hb9;have HC9:Hid (S=(done++X)++(b.drop (j+1)).flatMap (fun r=>a.filterMap (meetR r.1 r.2))):=HC.out.trans (List.append_assoc ..).symm;have hl9:(done++X).length≤(j+1)*n:=by
    rw[List.length_append,Nat.succ_mul];omega
   rw[HDX.out]at HC9 hl9;clear e9_14 e13 ho9 hb9 HO HQW HC CL CH HCU HDX;go_wp2_with fail;rw[←HBB.out];go_roundg (m-(j+1))
   case measure=>omega
   case rel=>exact⟨j+1,A9,c9,dx,rfl,by omega,by simp,rfl,HC9.out,hl9,HO9.out,HB9.out⟩
  ·have d1:decide ((j:Int)<(m:Int))=false:=dF (by omega);have HE:Hid (S=done):=HL.out.trans (by rw[List.drop_eq_nil_of_le (by rw[HN.out];omega)];exact List.append_nil _);go_wp2_with fail;exact bodyPost_ret (v:= .slice A2 done.length c2) (by simp[results,Tryz.results49,go_sem]) rfl ⟨A2,c2,by rw[HE.out],by rw[HE.out];exact RRow.own HO.out,bT HQ2.out HQW.out⟩
end Go.Proofs.YtecfcjdgmpopjaaGreat

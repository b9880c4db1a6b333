import Derived.Test.YtecfcjdgmpopjaaGreatHk
set_option maxHeartbeats 40000000
set_option maxRecDepth 100000
set_option linter.unusedSimpArgs false
set_option linter.unusedVariables false
namespace Go.Proofs.YtecfcjdgmpopjaaGreat
open Go.RowKit Num
def headD (k:Int)(xx aa:List Int)(cc:Int):Bool:=shapeD ⟨k,xx,aa,cc⟩&&(decide (xx.length≤32)&&(withinB cc&&(decide (cc=0)||namedD k)))
def kindD (doms:List (List (Int×Int)))(k:Int)(xx:List Int):Bool:=if k=4∨k=5∨k=6 then(match xx.getLast? with|none=>false|some x=>truthD doms x) else if k=11∨k=12∨k=13∨k=14 then xx.all (truthD doms) else true
theorem conD_eq (doms:List (List (Int×Int)))(k:Int)(xx aa:List Int)(cc:Int):conD doms ⟨k,xx,aa,cc⟩=(headD k xx aa cc&&(xx.all (inD doms)&&(aa.all withinB&&kindD doms k xx))):=by
 unfold headD;simp only[Bool.and_assoc];rfl
theorem rcon_any {w:World}{a:Mp}{m:Md}{x ad:Adr}{c:Cn}(hd:DsAt w a.doms.1 a.ds m.doms)(hdl:m.doms.length≤1000)(hdz:∀i,i<m.doms.length→(m.doms.getD i []).length≤1000)(h:CnAt w x ad c)(hx:c.x.length≤1000)(ha:c.a.length≤1000):Calls Tryz.prog 65 #[.agg (mdC a m),.agg (cnC x ad c)] w fun e w'=>e= .returned (.bool (conD m.doms c))∧Below w.heap.size w w':=by
 have M:=((Mem.start w).new 25 (mdC a m)).newAt (g:=w.heap.size+1) (by simp) 69 (cnC x ad c);have HS:=ZH (rshape_any (h.below M.bel) hx ha);obtain⟨k,xx,aa,cc⟩:=c;obtain⟨xA,xc⟩:=x;obtain⟨aA,ac⟩:=ad;obtain⟨f0,f1,f2,f3⟩:=(M.k (i:=0) rfl).four;have HX:=ZH h.x;have HA:=ZH h.a;have HD:=ZH hd;have HDZ:=ZH hdz;have HM:=ZH M;dsimp only at*;obtain⟨R,hR⟩:∃R,conD m.doms ⟨k,xx,aa,cc⟩=R:=⟨_,rfl⟩;rw[hR];have HR:Hid (R=(headD k xx aa cc&&(xx.all (inD m.doms)&&(aa.all withinB&&kindD m.doms k xx)))):=hR.symm.trans (conD_eq _ _ _ _ _);clear hR h hd hdz M;go_enter Tryz.func65,Tryz.ntmps65;go_upto_region 1 with fail;go_cut [32] (fun s32 wx=>∃B:Bool,s32= .bool B∧Hid (B= !(headD k xx aa cc))∧Hid (Mem w wx [(w.heap.size+1,69,cnC (xA,xc) (aA,ac) ⟨k,xx,aa,cc⟩),(w.heap.size,25,mdC a m)] []))
 case first=>
  clear HR;obtain⟨b1,hb1⟩:∃b,shapeD ⟨k,xx,aa,cc⟩=b:=⟨_,rfl⟩;have HB1:=ZH hb1;rw[hb1]at HS;clear hb1;cases b1 with
  |false=>
   go_wp2_with fail;refine HS.out.mono ?_;rintro e w1 ⟨rfl,q1⟩;have HM1:=ZH (HM.out.below q1);clear q1;go_wp2_with fail;go_meet;exact⟨_,rfl,by show _=_;unfold headD;rw[HB1.out];rfl,HM1.out⟩
  |true=>
   by_cases hl:xx.length≤32;rotate_left
   ·have d1:decide ((32:Int)<(xx.length:Int))=true:=dT (by omega);have HL:=ZH hl;clear hl;go_wp2_with fail;refine HS.out.mono ?_;rintro e w1 ⟨rfl,q1⟩;have HM1:=ZH (HM.out.below q1);obtain⟨f0,f1,f2,f3⟩:=(HM1.out.k (i:=0) rfl).four;clear q1;go_wp2_with fail;go_meet;exact⟨_,rfl,by show _=_;unfold headD;rw[HB1.out,dF HL.out];rfl,HM1.out⟩
   ·have d1:decide ((32:Int)<(xx.length:Int))=false:=dF (by omega);have HL:=ZH hl;obtain⟨b2,hb2⟩:∃b,withinB cc=b:=⟨_,rfl⟩;have HB2:=ZH hb2;clear hb2;have HW:=ZH (fun(w':World)=>rwithin8 (w:=w') HB2.out);cases b2 with
    |false=>
     go_wp2_with fail;refine HS.out.mono ?_;rintro e w1 ⟨rfl,q1⟩;have HM1:=ZH (HM.out.below q1);obtain⟨f0,f1,f2,f3⟩:=(HM1.out.k (i:=0) rfl).four;clear q1;go_wp2_with fail;refine(HW.out _).mono ?_;rintro e w2 ⟨rfl,q2⟩;have HM2:=ZH (HM1.out.below q2);clear q2 f0 f1 f2 f3;go_wp2_with fail;go_meet;exact⟨_,rfl,by show _=_;unfold headD;rw[HB1.out,HB2.out,dT HL.out];rfl,HM2.out⟩
    |true=>
     by_cases hc:cc=0
     ·have d2:(cc !=0)=false:=by rw[hc];rfl
      have HCC:=ZH hc;clear hc;go_wp2_with fail;refine HS.out.mono ?_;rintro e w1 ⟨rfl,q1⟩;have HM1:=ZH (HM.out.below q1);obtain⟨f0,f1,f2,f3⟩:=(HM1.out.k (i:=0) rfl).four;clear q1;go_wp2_with fail;refine(HW.out _).mono ?_;rintro e w2 ⟨rfl,q2⟩;have HM2:=ZH (HM1.out.below q2);clear q2 f0 f1 f2 f3;obtain⟨f0,f1,f2,f3⟩:=(HM2.out.k (i:=0) rfl).four;go_wp2_with fail;go_meet;exact⟨_,rfl,by show _=_;unfold headD;rw[HB1.out,HB2.out,dT HL.out,dT HCC.out];rfl,HM2.out⟩
     ·have d2:(cc !=0)=true:=bne_iff_ne.2 hc;have HCC:=ZH hc;clear hc;obtain⟨b3,hb3⟩:∃b,namedD k=b:=⟨_,rfl⟩;have HB3:=ZH hb3;clear hb3;have HN:=ZH (fun(w':World)=>rnamed_any k w');rw[HB3.out]at HN;go_wp2_with fail;refine HS.out.mono ?_;rintro e w1 ⟨rfl,q1⟩;have HM1:=ZH (HM.out.below q1);obtain⟨f0,f1,f2,f3⟩:=(HM1.out.k (i:=0) rfl).four;clear q1;go_wp2_with fail;refine(HW.out _).mono ?_;rintro e w2 ⟨rfl,q2⟩;have HM2:=ZH (HM1.out.below q2);clear q2 f0 f1 f2 f3;obtain⟨f0,f1,f2,f3⟩:=(HM2.out.k (i:=0) rfl).four;go_wp2_with fail;refine(HN.out _).mono ?_;rintro e w3 ⟨rfl,q3⟩;have HM3:=ZH (HM2.out.below q3);clear q3 f0 f1 f2 f3;go_wp2_with fail;go_meet;exact⟨_,rfl,by show _=_;unfold headD;rw[HB1.out,HB2.out,HB3.out,dT HL.out,dF HCC.out];cases b3<;>rfl,HM3.out⟩
 case rest=>
  clear f0 f1 f2 f3 HM HS;obtain⟨B,rfl,HB,HM⟩:=hcut;have HQ:=ZH HM.out.bel;cases B with
  |true=>
   have HE:Hid (R=false):=HR.out.trans (by
    have:=HB.out;cases hh:headD k xx aa cc with
    |false=>rfl
    |true=>rw[hh]at this;cases this)
   clear HR HB;go_wp2_with fail;exact bodyPost_ret (v:= .bool false) (by simp[results,Tryz.results65,go_sem]) rfl ⟨by rw[HE.out],HQ.out⟩
  |false=>
   have HH:Hid (headD k xx aa cc=true):=by
    have:=HB.out;cases hh:headD k xx aa cc with
    |true=>rfl
    |false=>rw[hh]at this;cases this
   have HR2:Hid (R=((xx.drop 0).all (inD m.doms)&&(aa.all withinB&&kindD m.doms k xx))):=HR.out.trans (by rw[HH.out,Bool.true_and];rfl);have HSH:Hid (shapeD ⟨k,xx,aa,cc⟩=true):=by
    have:=HH.out;unfold headD at this;rw[Bool.and_eq_true]at this;exact this.1
   clear HR HB HH;obtain⟨m0,m1,m2,m3⟩:=(HM.out.k (i:=1) rfl).four;obtain⟨f0,f1,f2,f3⟩:=(HM.out.k (i:=0) rfl).four;obtain⟨WC,hWC⟩:∃W,W=wc:=⟨_,rfl⟩;subst hWC;go_wp2_with fail;go_loopg [5] xx.length (fun kk p wr=>∃j,kk=xx.length-j∧j≤xx.length∧p= .int .i64 (j:Nat)∧Hid (R=((xx.drop j).all (inD m.doms)&&(aa.all withinB&&kindD m.doms k xx)))∧Hid (∀y∈xx.take j,0≤y∧y<m.doms.length)∧Hid (Mem w wr [(w.heap.size+1,69,cnC (xA,xc) (aA,ac) ⟨k,xx,aa,cc⟩),(w.heap.size,25,mdC a m)] []))
   case atStart=>exact⟨0,rfl,Nat.zero_le _,rfl,HR2.out,fun y hy=>by simp at hy,HM.out⟩
   case round=>
    clear HR2 HM HQ m0 m1 m2 m3 f0 f1 f2 f3;obtain⟨j,hk,hj,rfl,HL,HIN,HM⟩:=hrel;have HQ:=ZH HM.out.bel;obtain⟨m0,m1,m2,m3⟩:=(HM.out.k (i:=1) rfl).four;obtain⟨f0,f1,f2,f3⟩:=(HM.out.k (i:=0) rfl).four;by_cases hlt:j<xx.length
    ·have d1:decide ((j:Int)<(xx.length:Int))=true:=dT (by omega);have HC:Hid (R=(inD m.doms (xx.getD j 0)&&((xx.drop (j+1)).all (inD m.doms)&&(aa.all withinB&&kindD m.doms k xx)))):=HL.out.trans (by rw[drop_at (z:=0) hlt,List.all_cons,Bool.and_assoc]);have HTK:Hid (xx.take (j+1)=xx.take j++[xx.getD j 0]):=by
      show _=_;rw[List.take_add_one,gG hlt,gE,gG hlt];rfl
     obtain⟨gl,ol,hxa,cj⟩:=(HX.out.below HQ.out) j hlt;have HXA:=ZH hxa;rw[hxa]at f1;replace cj:wr.cell? ⟨gl,ol+j,none⟩=some (.int .i64 (xx.getD j 0)):=cj;generalize xx.getD j 0=z at*;clear HL hxa;by_cases z0:z<0
     ·have d2:decide (z<0)=true:=dT z0;have HE:Hid (R=false):=HC.out.trans (by unfold inD;rw[dF (show ¬0≤z by omega)];rfl);clear HC z0 HTK;go_upto_region 6 with fail;go_quiet (fail);go_wp2_with fail;exact bodyPost_ret (v:= .bool false) (by simp[results,Tryz.results65,go_sem]) rfl ⟨by rw[HE.out],below_dr HQ.out _⟩
     ·have d2:decide (z<0)=false:=dF z0;by_cases z1:z<m.doms.length
      ·have d3:decide ((m.doms.length:Int)≤z)=false:=dF (by omega);have HC2:Hid (R=((xx.drop (j+1)).all (inD m.doms)&&(aa.all withinB&&kindD m.doms k xx))):=HC.out.trans (by unfold inD;rw[dT (show 0≤z by omega),dT z1];rfl);have HIN2:Hid (∀y∈xx.take (j+1),0≤y∧y<m.doms.length):=by
        intro y hy;rw[HTK.out,List.mem_append]at hy;rcases hy with hy|hy
        ·exact HIN.out y hy
        ·rw[List.mem_singleton.1 hy];exact⟨by omega,z1⟩
       clear HC z0 z1 HTK HIN;go_upto_region 6 with fail;go_quiet (fail);go_wp2_with fail;go_roundg (xx.length-(j+1))
       case measure=>omega
       case rel=>exact⟨j+1,rfl,by omega,by simp,HC2.out,HIN2.out,HM.out.drewN _⟩
      ·have d3:decide ((m.doms.length:Int)≤z)=true:=dT (by omega);have HE:Hid (R=false):=HC.out.trans (by unfold inD;rw[dF z1,Bool.and_false];rfl);clear HC z0 z1 HTK;go_upto_region 6 with fail;go_quiet (fail);go_wp2_with fail;exact bodyPost_ret (v:= .bool false) (by simp[results,Tryz.results65,go_sem]) rfl ⟨by rw[HE.out],below_dr HQ.out _⟩
    ·have d1:decide ((j:Int)<(xx.length:Int))=false:=dF (by omega);have HC2:Hid (R=((aa.drop 0).all withinB&&kindD m.doms k xx)):=HL.out.trans (by rw[drop_none hlt];rfl);have HIX:Hid (∀y∈xx,0≤y∧y<m.doms.length):=by
      have:=HIN.out;rw[List.take_of_length_le (by omega)]at this;exact this
     clear HL HIN;obtain⟨WC2,hWC2⟩:∃W,W=wr:=⟨_,rfl⟩;subst hWC2;go_wp2_with fail;go_loopg [6] aa.length (fun kk p wr=>∃j,kk=aa.length-j∧j≤aa.length∧p= .int .i64 (j:Nat)∧Hid (R=((aa.drop j).all withinB&&kindD m.doms k xx))∧Hid (Mem w wr [(w.heap.size+1,69,cnC (xA,xc) (aA,ac) ⟨k,xx,aa,cc⟩),(w.heap.size,25,mdC a m)] []))
     case atStart=>exact⟨0,rfl,Nat.zero_le _,rfl,HC2.out,HM.out⟩
     case round=>
      clear HC2 HM HQ m0 m1 m2 m3 f0 f1 f2 f3;obtain⟨i,hk2,hi,rfl,HL,HM⟩:=hrel;have HQ:=ZH HM.out.bel;obtain⟨m0,m1,m2,m3⟩:=(HM.out.k (i:=1) rfl).four;obtain⟨f0,f1,f2,f3⟩:=(HM.out.k (i:=0) rfl).four;by_cases hla:i<aa.length
      ·have d1:decide ((i:Int)<(aa.length:Int))=true:=dT (by omega);have HC:Hid (R=(withinB (aa.getD i 0)&&((aa.drop (i+1)).all withinB&&kindD m.doms k xx))):=HL.out.trans (by rw[drop_at (z:=0) hla,List.all_cons,Bool.and_assoc]);obtain⟨gl,ol,hxa,cj⟩:=(HA.out.below HQ.out) i hla;have HXA:=ZH hxa;rw[hxa]at f2;replace cj:wr.cell? ⟨gl,ol+i,none⟩=some (.int .i64 (aa.getD i 0)):=cj;generalize aa.getD i 0=z at*;clear HL hxa;obtain⟨b2,hb2⟩:∃b,withinB z=b:=⟨_,rfl⟩;have HB2:=ZH hb2;have HW:=ZH (fun(w':World)=>rwithin8 (w:=w') HB2.out);clear hb2;cases b2 with
       |false=>
        have HE:Hid (R=false):=HC.out.trans (by rw[HB2.out];rfl);clear HC;go_wp2_with fail;refine(HW.out _).mono ?_;rintro e w2 ⟨rfl,q2⟩;have HM2:=ZH (HM.out.below q2);clear q2;go_wp2_with fail;exact bodyPost_ret (v:= .bool false) (by simp[results,Tryz.results65,go_sem]) rfl ⟨by rw[HE.out],HM2.out.bel⟩
       |true=>
        have HE:Hid (R=((aa.drop (i+1)).all withinB&&kindD m.doms k xx)):=HC.out.trans (by rw[HB2.out];rfl);clear HC;go_wp2_with fail;refine(HW.out _).mono ?_;rintro e w2 ⟨rfl,q2⟩;have HM2:=ZH (HM.out.below q2);clear q2;go_wp2_with fail;go_roundg (aa.length-(i+1))
        case measure=>omega
        case rel=>exact⟨i+1,rfl,by omega,by simp,HE.out,HM2.out⟩
      ·have d1:decide ((i:Int)<(aa.length:Int))=false:=dF (by omega);have HK:Hid (R=kindD m.doms k xx):=HL.out.trans (by rw[drop_none hla];rfl);clear HL;by_cases h456:k=4∨k=5∨k=6
       ·have hsl:xx.length=aa.length+1:=by
         have:=HSH.out;unfold shapeD at this;dsimp only at this;rw[if_neg (by omega),if_pos h456]at this;exact of_decide_eq_true this
        obtain⟨j,hjx⟩:∃j,xx.length=j+1:=⟨_,hsl⟩;have hlj:j<xx.length:=by omega
        have HK2:Hid (R=truthD m.doms (xx.getD j 0)):=by
         show _=_;rw[HK.out];unfold kindD;rw[if_pos h456,List.getLast?_eq_getElem?,hjx,show j+1-1=j from rfl,gG hlj,gE,gG hlj];rfl
        have hin:0≤xx.getD j 0∧xx.getD j 0<m.doms.length:=by
         rw[gE,gG hlj];exact HIX.out _ (List.getElem_mem hlj)
        obtain⟨gl,ol,hxa,cj⟩:=(HX.out.below HQ.out) j hlj;rw[hxa]at f1;replace cj:wr.cell? ⟨gl,ol+j,none⟩=some (.int .i64 (xx.getD j 0)):=cj;generalize xx.getD j 0=z at*;obtain⟨n,rfl⟩:=Int.eq_ofNat_of_zero_le hin.1;have hn:n<m.doms.length:=by omega
        have HT:Hid (R=truthB (m.doms.getD n [])):=HK2.out.trans (by
         unfold truthD;rw[show((n:Int)).toNat=n from rfl,gG hn,gE,gG hn];rfl)
        obtain⟨gd,od,hda,cd⟩:=(HD.out.below HQ.out).ap n hn;replace cd:wr.cell? ⟨gd,od+n,none⟩=some (.slice (a.ds.getD n ad0).1 (m.doms.getD n []).length (a.ds.getD n ad0).2):=cd;have HRR:=ZH ((HD.out.below HQ.out).ar n hn);have hrl:=HDZ.out n hn;rw[hda]at m0;have CJ:=Lk.of cj;have CD:=Lk.of cd;have C0:=Lk.of m0;have C1:=Lk.of f1;generalize (a.ds.getD n ad0).1=DA at*;generalize (a.ds.getD n ad0).2=dc at*;generalize m.doms.getD n []=row at*;have M2:=Mem.start wr;have HTR:Hid (truthB row=R):=HT.out.symm;have e7:IntKind.i64.wrap ((xx.length:Int)-1)=(j:Nat):=(sub_wrap (a:=xx.length) (b:=1) (by omega) (by omega)).trans (by rw[hjx];rfl);clear cj cd m0 m1 m2 m3 f1 hda hxa HK HK2 HT HIX HSH hsl hin;have HJX:=ZH hjx;clear hjx;rcases h456 with rfl|rfl|rfl
        ·go_upto_region 17 with fail;refine region_st (n:=14) (frame:= ?frame1) (fun jK=>[kP w.heap.size 0,kF (.slice (some ⟨gd,od,none⟩) m.doms.length a.doms.2),kP (w.heap.size+1) 1,kF (.slice (some ⟨gl,ol,none⟩) xx.length xc),kP (w.heap.size+1) 1,kF (.slice (some ⟨gl,ol,none⟩) xx.length xc),kI ((xx.length:Int)),kI ((j:Nat)),kP gl (ol+j),kI ((n:Nat)),kP gd (od+n),kF (.slice DA row.length dc),kB ((truthB row)),kB ((truthB row))].getD jK .none) [] (by kernel_rfl) (by kernel_rfl) (by kernel_rfl) rfl M2 (fun _ h=>by cases h) (fun _ h=>by cases h) ?_ ?_ ?_
         case refine_1=>
          intro s;simp only[fr,Act.put,zA,zB,zC,zD,zE,zF,Nat.reduceAdd];rfl
         case refine_2=>
          iterate 14 (refine SN ?_ ?_;rotate_left)
          exact Steps.nil;all_goals (intro L s w9 hN hU hi hS K hK;dsimp only at hK⊢;simp only[Act.put,zD,zE,zF]at hK)
          ·go_simp;exact hS.o hK
          ·simp only[hS.f hN 0]at hK⊢;have u0:=C0 _ hS.mem.bel;go_simp;exact hS.o hK
          ·go_simp;exact hS.o hK
          ·simp only[hS.f hN 2]at hK⊢;have u0:=C1 _ hS.mem.bel;go_simp;exact hS.o hK
          ·go_simp;exact hS.o hK
          ·simp only[hS.f hN 4]at hK⊢;have u0:=C1 _ hS.mem.bel;go_simp;exact hS.o hK
          ·simp only[hS.f hN 5]at hK⊢;go_simp;exact hS.o hK
          ·simp only[hS.f hN 6]at hK⊢;go_simp;exact hS.o hK
          ·simp only[hS.f hN 3,hS.f hN 7]at hK⊢;go_simp;exact hS.o hK
          ·simp only[hS.f hN 8]at hK⊢;have u0:=CJ _ hS.mem.bel;go_simp;exact hS.o hK
          ·simp only[hS.f hN 1,hS.f hN 9]at hK⊢;go_simp;exact hS.o hK
          ·simp only[hS.f hN 10]at hK⊢;have u0:=CD _ hS.mem.bel;go_simp;exact hS.o hK
          ·simp only[hS.f hN 11]at hK⊢;go_simp;go_at_call 112;refine(rtruth_any (HRR.out.below hS.mem.bel) (by omega)).mono ?_;rintro e9 w10 ⟨rfl,q⟩;exact hK.out _ _ (hS.val rfl (nSo rfl) q rfl)
          ·simp only[hS.f hN 12]at hK⊢;go_simp;exact hS.o hK
         intro L s w9 hall hS;have e13:=hS.fx 13 rfl rfl (hall 13 (by decide));have q3:=hS.mem.bel;have HQ3:=ZH (bT HQ.out q3);rw[HTR.out]at e13;clear hS hall q3;go_wp2_with fail;exact bodyPost_ret (v:= .bool R) (by simp[results,Tryz.results65,go_sem,e13]) rfl ⟨rfl,HQ3.out⟩
        ·go_upto_region 17 with fail;refine region_st (n:=14) (frame:= ?frame2) (fun jK=>[kP w.heap.size 0,kF (.slice (some ⟨gd,od,none⟩) m.doms.length a.doms.2),kP (w.heap.size+1) 1,kF (.slice (some ⟨gl,ol,none⟩) xx.length xc),kP (w.heap.size+1) 1,kF (.slice (some ⟨gl,ol,none⟩) xx.length xc),kI ((xx.length:Int)),kI ((j:Nat)),kP gl (ol+j),kI ((n:Nat)),kP gd (od+n),kF (.slice DA row.length dc),kB ((truthB row)),kB ((truthB row))].getD jK .none) [] (by kernel_rfl) (by kernel_rfl) (by kernel_rfl) rfl M2 (fun _ h=>by cases h) (fun _ h=>by cases h) ?_ ?_ ?_
         case refine_1=>
          intro s;simp only[fr,Act.put,zA,zB,zC,zD,zE,zF,Nat.reduceAdd];rfl
         case refine_2=>
          iterate 14 (refine SN ?_ ?_;rotate_left)
          exact Steps.nil;all_goals (intro L s w9 hN hU hi hS K hK;dsimp only at hK⊢;simp only[Act.put,zD,zE,zF]at hK)
          ·go_simp;exact hS.o hK
          ·simp only[hS.f hN 0]at hK⊢;have u0:=C0 _ hS.mem.bel;go_simp;exact hS.o hK
          ·go_simp;exact hS.o hK
          ·simp only[hS.f hN 2]at hK⊢;have u0:=C1 _ hS.mem.bel;go_simp;exact hS.o hK
          ·go_simp;exact hS.o hK
          ·simp only[hS.f hN 4]at hK⊢;have u0:=C1 _ hS.mem.bel;go_simp;exact hS.o hK
          ·simp only[hS.f hN 5]at hK⊢;go_simp;exact hS.o hK
          ·simp only[hS.f hN 6]at hK⊢;go_simp;exact hS.o hK
          ·simp only[hS.f hN 3,hS.f hN 7]at hK⊢;go_simp;exact hS.o hK
          ·simp only[hS.f hN 8]at hK⊢;have u0:=CJ _ hS.mem.bel;go_simp;exact hS.o hK
          ·simp only[hS.f hN 1,hS.f hN 9]at hK⊢;go_simp;exact hS.o hK
          ·simp only[hS.f hN 10]at hK⊢;have u0:=CD _ hS.mem.bel;go_simp;exact hS.o hK
          ·simp only[hS.f hN 11]at hK⊢;go_simp;go_at_call 112;refine(rtruth_any (HRR.out.below hS.mem.bel) (by omega)).mono ?_;rintro e9 w10 ⟨rfl,q⟩;exact hK.out _ _ (hS.val rfl (nSo rfl) q rfl)
          ·simp only[hS.f hN 12]at hK⊢;go_simp;exact hS.o hK
         intro L s w9 hall hS;have e13:=hS.fx 13 rfl rfl (hall 13 (by decide));have q3:=hS.mem.bel;have HQ3:=ZH (bT HQ.out q3);rw[HTR.out]at e13;clear hS hall q3;go_wp2_with fail;exact bodyPost_ret (v:= .bool R) (by simp[results,Tryz.results65,go_sem,e13]) rfl ⟨rfl,HQ3.out⟩
        ·go_upto_region 17 with fail;refine region_st (n:=14) (frame:= ?frame3) (fun jK=>[kP w.heap.size 0,kF (.slice (some ⟨gd,od,none⟩) m.doms.length a.doms.2),kP (w.heap.size+1) 1,kF (.slice (some ⟨gl,ol,none⟩) xx.length xc),kP (w.heap.size+1) 1,kF (.slice (some ⟨gl,ol,none⟩) xx.length xc),kI ((xx.length:Int)),kI ((j:Nat)),kP gl (ol+j),kI ((n:Nat)),kP gd (od+n),kF (.slice DA row.length dc),kB ((truthB row)),kB ((truthB row))].getD jK .none) [] (by kernel_rfl) (by kernel_rfl) (by kernel_rfl) rfl M2 (fun _ h=>by cases h) (fun _ h=>by cases h) ?_ ?_ ?_
         case refine_1=>
          intro s;simp only[fr,Act.put,zA,zB,zC,zD,zE,zF,Nat.reduceAdd];rfl
         case refine_2=>
          iterate 14 (refine SN ?_ ?_;rotate_left)
          exact Steps.nil;all_goals (intro L s w9 hN hU hi hS K hK;dsimp only at hK⊢;simp only[Act.put,zD,zE,zF]at hK)
          ·go_simp;exact hS.o hK
          ·simp only[hS.f hN 0]at hK⊢;have u0:=C0 _ hS.mem.bel;go_simp;exact hS.o hK
          ·go_simp;exact hS.o hK
          ·simp only[hS.f hN 2]at hK⊢;have u0:=C1 _ hS.mem.bel;go_simp;exact hS.o hK
          ·go_simp;exact hS.o hK
          ·simp only[hS.f hN 4]at hK⊢;have u0:=C1 _ hS.mem.bel;go_simp;exact hS.o hK
          ·simp only[hS.f hN 5]at hK⊢;go_simp;exact hS.o hK
          ·simp only[hS.f hN 6]at hK⊢;go_simp;exact hS.o hK
          ·simp only[hS.f hN 3,hS.f hN 7]at hK⊢;go_simp;exact hS.o hK
          ·simp only[hS.f hN 8]at hK⊢;have u0:=CJ _ hS.mem.bel;go_simp;exact hS.o hK
          ·simp only[hS.f hN 1,hS.f hN 9]at hK⊢;go_simp;exact hS.o hK
          ·simp only[hS.f hN 10]at hK⊢;have u0:=CD _ hS.mem.bel;go_simp;exact hS.o hK
          ·simp only[hS.f hN 11]at hK⊢;go_simp;go_at_call 112;refine(rtruth_any (HRR.out.below hS.mem.bel) (by omega)).mono ?_;rintro e9 w10 ⟨rfl,q⟩;exact hK.out _ _ (hS.val rfl (nSo rfl) q rfl)
          ·simp only[hS.f hN 12]at hK⊢;go_simp;exact hS.o hK
         intro L s w9 hall hS;have e13:=hS.fx 13 rfl rfl (hall 13 (by decide));have q3:=hS.mem.bel;have HQ3:=ZH (bT HQ.out q3);rw[HTR.out]at e13;clear hS hall q3;go_wp2_with fail;exact bodyPost_ret (v:= .bool R) (by simp[results,Tryz.results65,go_sem,e13]) rfl ⟨rfl,HQ3.out⟩
       ·have h3:(k==4)=false:=beq_false_of_ne (by omega);have h5:(k==5)=false:=beq_false_of_ne (by omega);have h6:(k==6)=false:=beq_false_of_ne (by omega);by_cases h11:k=11∨k=12∨k=13∨k=14
        ·have HK2:Hid (R=xx.all (truthD m.doms)):=HK.out.trans ((if_neg h456).trans (if_pos h11));have HTR:=ZH (rtruths_any (c:=xc) (HD.out.below HQ.out) HDZ.out (HX.out.below HQ.out) (by omega) HIX.out);rw[←HK2.out]at HTR;clear HK HK2 h456 h3 h5 h6 HIX HSH;rcases h11 with rfl|rfl|rfl|rfl
         ·go_wp2_with fail;refine HTR.out.mono ?_;rintro e w2 ⟨rfl,q2⟩;have HQ3:=ZH (bT HQ.out q2);clear q2;go_wp2_with fail;exact bodyPost_ret (v:= .bool R) (by simp[results,Tryz.results65,go_sem]) rfl ⟨rfl,HQ3.out⟩
         ·go_wp2_with fail;refine HTR.out.mono ?_;rintro e w2 ⟨rfl,q2⟩;have HQ3:=ZH (bT HQ.out q2);clear q2;go_wp2_with fail;exact bodyPost_ret (v:= .bool R) (by simp[results,Tryz.results65,go_sem]) rfl ⟨rfl,HQ3.out⟩
         ·go_wp2_with fail;refine HTR.out.mono ?_;rintro e w2 ⟨rfl,q2⟩;have HQ3:=ZH (bT HQ.out q2);clear q2;go_wp2_with fail;exact bodyPost_ret (v:= .bool R) (by simp[results,Tryz.results65,go_sem]) rfl ⟨rfl,HQ3.out⟩
         ·go_wp2_with fail;refine HTR.out.mono ?_;rintro e w2 ⟨rfl,q2⟩;have HQ3:=ZH (bT HQ.out q2);clear q2;go_wp2_with fail;exact bodyPost_ret (v:= .bool R) (by simp[results,Tryz.results65,go_sem]) rfl ⟨rfl,HQ3.out⟩
        ·have HE:Hid (R=true):=HK.out.trans ((if_neg h456).trans (if_neg h11));have i1:(k==11)=false:=beq_false_of_ne (by omega);have i2:(k==12)=false:=beq_false_of_ne (by omega);have i3:(k==13)=false:=beq_false_of_ne (by omega);have i4:(k==14)=false:=beq_false_of_ne (by omega);clear HK h456 h11 HIX HSH;go_wp2_with fail;exact bodyPost_ret (v:= .bool true) (by simp[results,Tryz.results65,go_sem]) rfl ⟨by rw[HE.out],HQ.out⟩
end Go.Proofs.YtecfcjdgmpopjaaGreat

/-
  Joined texts: He, Hf, Hg, Hh.
-/
import Derived.Test.YtecfcjdgmpopjaaGreatGz
import Derived.Deep.Upon
set_option maxHeartbeats 16000000
set_option maxRecDepth 100000
set_option linter.unusedSimpArgs false
set_option linter.unusedVariables false
namespace Go.Proofs.YtecfcjdgmpopjaaGreat
open Go.RowKit Num
theorem floor_szR {p:Rat}{k:Nat}(h:Sz p k):(sD p.floor).length≤k+1:=by
 rw[Rat.floor_def];have hp:=p.den_pos;have hpz:(0:Int)<p.den:=by omega
 have hb:(p.num/(p.den:Int)).natAbs≤p.num.natAbs+1:=by
  have h1:=Int.mul_ediv_add_emod p.num p.den;have h2:=Int.emod_nonneg p.num (by omega:(p.den:Int)≠0);have h3:=Int.emod_lt_of_pos p.num hpz;rcases Int.lt_or_le (p.num/p.den) 0 with h4|h4
  ·have:(p.den:Int)*(p.num/p.den)≤1*(p.num/p.den):=Int.mul_le_mul_of_nonpos_right (by omega) (by omega);by_cases h5:p.num/(p.den:Int)+1=0
   ·omega
   ·have h6:(p.den:Int)*(p.num/p.den+1)≤1*(p.num/p.den+1):=Int.mul_le_mul_of_nonpos_right (by omega) (by omega);rw[Int.mul_add]at h6;omega
  ·have:1*(p.num/p.den)≤(p.den:Int)*(p.num/p.den):=Int.mul_le_mul_of_nonneg_right (by omega) h4;omega
 have la:=sD_ltQ h.1;refine sD_small (Nat.lt_of_le_of_lt hb ?_);rw[Nat.pow_succ];generalize (4294967296:Nat)^k=K at*;omega
theorem pfloor_any {w:World}{A B:Option Addr}{c d:Nat}{q:Rat}(h:QR w A c B d q):Calls Tryz.prog 134 #[qv q A c B d] w fun e w'=>Below w.heap.size w w'∧∃A1 c1,e= .returned (.tuple #[iv (sN q.floor) A1 (sD q.floor).length c1,.int .i64 0])∧Rd w' A1 c1 (sD q.floor):=by
 refine(qfloor_any (n:=sN q.num) (m:=false) h.num h.den).mono ?_;rintro e w' ⟨⟨A1,c1,rfl,h1⟩,q1⟩;rw[qfloor_sz (show Sz q 64 from h.few) ZL]at h1⊢;exact⟨q1,A1,c1,rfl,h1⟩
def smZ (z:Int):Int×Int:=if-9223372036854775808≤z∧z<9223372036854775808 then(z,0) else(0,4)
theorem psmall_any {w:World}{A:Option Addr}{c:Nat}{z:Int}(h:Rd w A c (sD z))(hz:(sD z).length≤256):Calls Tryz.prog 135 #[iv (sN z) A (sD z).length c] w fun e w'=>Below w.heap.size w w'∧e= .returned (.tuple #[.int .i64 (smZ z).1,.int .i64 (smZ z).2]):=by
 refine(ssmall_any (sN z) A c (sD z) w h).mono ?_;rintro e w' ⟨rfl,q1⟩;refine⟨q1,?_⟩;unfold ssmallR smZ;rw[if_pos (sright_sd hz),sv_sd]
theorem smZ_ok {z:Int}(h:0≤z):((smZ z).2=0∧(smZ z).1=z)∨((smZ z).2=4∧(smZ z).1=0∧¬z≤4194304):=by
 unfold smZ;split
 ·exact .inl ⟨rfl,rfl⟩
 ·exact .inr ⟨rfl,rfl,by omega⟩
theorem ToldQ.fst {g:Nat}{w w':World}{o:Option Rat}{n:Bool}{A:Option Addr}{l c:Nat}{m:Bool}{B:Option Addr}{k d:Nat}{x:Int}(h:ToldQ w o n A l c m B k d x)(p:FSt g w w'):ToldQ w' o n A l c m B k d x:=by
 rcases h with ⟨h1,r,h2,h3,h4,h5,h6,h7⟩|h
 ·exact .inl ⟨h1,r,h2,h3,h4,h5,h6,p.qr h7⟩
 ·exact .inr h
def FarP (g:Nat)(cells:Bool→Array Value)(q v:Rat)(b:Bool)(w:World)(e:Ending)(w':World):Prop:=FSt g w w'∧∃(z:Int)(near b':Bool),e= .returned (.tuple #[.int .i64 z,.bool near])∧Blk w' g tyFl (cells b')∧0≤z∧
 ((b'=true∧near=false∧(b=true∨farO q v=none))∨(b'=false∧b=false∧∃o,farO q v=some o∧near=o.isSome∧∀t,o=some t→z=t))
structure JF (g:Nat) (cells:Bool→Array Value) (o:Option Rat) (b:Bool) (w1:World) (L6 L9 L10:Bool) (s6 s9 s10:Value) (w:World):Prop where
 st:FSt g w1 w
 f:L9=false→Blk w g tyFl (cells b)
 d:L6=true→∃n3 A5 l3 c5 m3 B5 k3 d5 x3,s6= .tuple #[rv n3 A5 l3 c5 m3 B5 k3 d5,.int .i64 x3]∧ToldQ w o n3 A5 l3 c5 m3 B5 k3 d5 x3
 m:L9=true→∃r A c B d b',s9=qv r A c B d∧QR w A c B d r∧Blk w g tyFl (cells b')∧(o=some r∧b'=b∨o=none∧b'=true)
 a:L10=true→∃k,s10= .pointer (some ⟨k,0,none⟩)∧Blk w k 72 z4∧w1.heap.size≤k
theorem JF.grow {g:Nat}{cells:Bool→Array Value}{o:Option Rat}{b:Bool}{w1:World}{L6 L9 L10:Bool}{s6 s9 s10:Value}{w w':World}(h:JF g cells o b w1 L6 L9 L10 s6 s9 s10 w)(p:Below w.heap.size w w'):JF g cells o b w1 L6 L9 L10 s6 s9 s10 w':=by
 refine⟨h.st.trans (FSt.of p),fun e=>(h.f e).below p ZL,fun e=> ?_,fun e=> ?_,fun e=> ?_⟩
 ·obtain⟨n3,A5,l3,c5,m3,B5,k3,d5,x3,h1,h2⟩:=h.d e;exact⟨n3,A5,l3,c5,m3,B5,k3,d5,x3,h1,h2.fst (FSt.of (g:=g) p)⟩
 ·obtain⟨r,A,c,B,d,b',h1,h2,h3,h4⟩:=h.m e;exact⟨r,A,c,B,d,b',h1,h2.below p,h3.below p ZL,h4⟩
 ·obtain⟨k,h1,h2,h3⟩:=h.a e;exact⟨k,h1,h2.below p ZL,h3⟩
theorem far_any {w:World}{g:Nat}{m:Pa}{p:Pg}{Y:Option Addr}{n cY:Nat}{q:Rat}{A:Option Addr}{cA:Nat}{B:Option Addr}{cB:Nat}{b:Bool}{v:Rat}{A':Option Addr}{c':Nat}{B':Option Addr}{d':Nat}(hb:Blk w g tyFl (flC m p Y n cY q A cA B cB b))(hq:QR w A cA B cB q)(hv:QR w A' c' B' d' v)(h0:b=false→0≤q∧0<v):Calls Tryz.prog 80 #[vptr g,qv v A' c' B' d'] w fun e w'=>FarP g (fun b=>flC m p Y n cY q A cA B cB b) q v b w e w':=by
 have HB:=ZH hb;have HQ:=ZH hq;have HV:=ZH hv;have H0:=ZH h0;have hgl:=hb.lt;obtain⟨o,ho⟩:∃o,divO q v=o:=⟨_,rfl⟩;have HO:=ZH ho;have M:=(Mem.start w).new 72 (qcs v A' c' B' d');obtain⟨v0,v1,v2,v3⟩:=(M.k (i:=0) rfl).four;have HBM:=ZH (hb.below M.bel ZL);have HVM:=ZH (hv.below M.bel);have HQM:=ZH (hq.below M.bel);have HFM:=ZH (FSt.of (g:=g) M.bel);have n3:w.heap.size≠g:=by omega
 have r6:_=some (Value.bool (sN q.num)):=HBM.out.cell 6;have r7:_=some (Value.slice A (sD q.num).length cA):=HBM.out.cell 7;have r8:_=some (Value.bool false):=HBM.out.cell 8;have r9:_=some (Value.slice B (dig q.den).length cB):=HBM.out.cell 9;obtain⟨cells,hcells⟩:∃cells:Bool→Array Value,cells=fun b=>flC m p Y n cY q A cA B cB b:=⟨_,rfl⟩;have HCE:=ZH hcells;have HBC:Hid (Blk (w.alloc (.cells (qcs v A' c' B' d') 72)) g tyFl (cells b)):=by
  show Blk _ _ _ _;rw[hcells];exact HBM.out
 clear hb hq hv h0 ho M hcells;go_enter Tryz.func80,Tryz.ntmps80;go_upto_region 1 with fail;obtain⟨W1,hW1⟩:∃W,W=w.alloc (.cells (qcs v A' c' B' d') 72):=⟨_,rfl⟩;have hww:w.heap.size≤W1.heap.size:=by rw[hW1];simp
 rw[←hW1]at HBC HVM HQM HFM v0 v1 v2 v3 r6 r7 r8 r9⊢;have hg1:g<W1.heap.size:=by omega
 clear hW1 HBM;refine region_gen0 (n:=12) (frame:= ?frame1) (fun L s w'=>Vs [oP g 0,oP g 0,oP g 0,oP g 6,oF (qv q A cA B cB),oF (qv v A' c' B' d'),none,none,none,none,none,none] L s∧(L 7=true→s 7=exv 0 (s 6))∧(L 8=true→s 8=exv 1 (s 6))∧((L 11=false→JF g cells o b W1 (L 6) (L 9) (L 10) (s 6) (s 9) (s 10) w')∧(L 11=true→FSt g W1 w'∧∃k r A c B d b',s 10= .pointer (some ⟨k,0,none⟩)∧Blk w' k 72 (qcs r A c B d)∧QR w' A c B d r∧Blk w' g tyFl (cells b')∧(o=some r∧b'=b∨o=none∧b'=true)))) (by kernel_rfl) (by kernel_rfl) (by kernel_rfl) rfl ?_ ?_ ?_ ?_
 case refine_1=>exact⟨fun _ _ _ h=>no_f h,fun h=>no_f h,fun h=>no_f h,⟨fun _=>⟨FSt.of ((Read.refl _).drew.below _),fun _=>HBC.out.below ((Read.refl _).drew.below _) ZL,fun h=>no_f h,fun h=>no_f h,fun h=>no_f h⟩,fun h=>no_f h⟩⟩
 case refine_2=>
  intro s;simp only[fr,Act.put,zA,zB,zC,zD,zE,zF,Nat.reduceAdd];rfl
 case refine_3=>
  iterate 12 (refine SN ?_ ?_;rotate_left)
  exact Steps.nil;all_goals (intro L s w9 hN hU hi hC hS K hK;dsimp only at hK⊢;simp only[Act.put,zD,zE,zF]at hK;obtain⟨hV,h_7,h_8,hJ⟩:=hS;refine ite_of rfl ?_)
  ·go_simp;exact hK.out _ _ ⟨hV.put 0,h_7,h_8,hJ⟩
  ·go_simp;exact hK.out _ _ ⟨hV.put 1,h_7,h_8,hJ⟩
  ·rw[hV.at 1 (hN.out 1 rfl)]at hK⊢;go_simp;exact hK.out _ _ ⟨hV.put 2,h_7,h_8,hJ⟩
  ·rw[hV.at 2 (hN.out 2 rfl)]at hK⊢;go_simp;exact hK.out _ _ ⟨hV.put 3,h_7,h_8,hJ⟩
  ·rw[hV.at 3 (hN.out 3 rfl)]at hK⊢;have f_6:L 6=false:=(hU.out 6 _ rfl rfl);have f_9:L 9=false:=(Shut.no hC 9 7 rfl rfl (Shut.no hC 7 6 rfl rfl (hU.out 6 _ rfl rfl)));have f_11:L 11=false:=(Shut.no hC 11 9 rfl rfl (Shut.no hC 9 7 rfl rfl (Shut.no hC 7 6 rfl rfl (hU.out 6 _ rfl rfl))));have u0:=(hJ.1 f_11).st.cell r6 (fun _=>by decide);have u1:=(hJ.1 f_11).st.cell r7 (fun _=>by decide);have u2:=(hJ.1 f_11).st.cell r8 (fun _=>by decide);have u3:=(hJ.1 f_11).st.cell r9 (fun _=>by decide);go_simp;exact hK.out _ _ ⟨hV.put 4,h_7,h_8,hJ⟩
  ·have f_6:L 6=false:=(hU.out 6 _ rfl rfl);have f_9:L 9=false:=(Shut.no hC 9 7 rfl rfl (Shut.no hC 7 6 rfl rfl (hU.out 6 _ rfl rfl)));have f_11:L 11=false:=(Shut.no hC 11 9 rfl rfl (Shut.no hC 9 7 rfl rfl (Shut.no hC 7 6 rfl rfl (hU.out 6 _ rfl rfl))));have u0:=(hJ.1 f_11).st.cell v0 (fun e=>absurd e n3);have u1:=(hJ.1 f_11).st.cell v1 (fun e=>absurd e n3);have u2:=(hJ.1 f_11).st.cell v2 (fun e=>absurd e n3);have u3:=(hJ.1 f_11).st.cell v3 (fun e=>absurd e n3);go_simp;exact hK.out _ _ ⟨hV.put 5,h_7,h_8,hJ⟩
  ·rw[hV.at 4 (hN.out 4 rfl)]at hK⊢;rw[hV.at 5 (hN.out 5 rfl)]at hK⊢;have f_9:L 9=false:=(Shut.no hC 9 7 rfl rfl (hU.out 7 _ rfl rfl));have f_11:L 11=false:=(Shut.no hC 11 9 rfl rfl (Shut.no hC 9 7 rfl rfl (hU.out 7 _ rfl rfl)));have hF:=hJ.1 f_11;go_simp;go_at_call 133;refine(fdiv_any (hF.st.qr HQM.out) (hF.st.qr HVM.out)).mono ?_;rintro e w10 ⟨p2,n3,A5,l3,c5,m3,B5,k3,d5,x3,rfl,ht3⟩;rw[HO.out]at ht3;have h2:=hF.grow p2;exact hK.out _ _ ⟨hV.eff 6,fun h=>no_f (Eq.trans (Eq.symm (hU.out 7 _ rfl rfl)) h),fun h=>no_f (Eq.trans (Eq.symm (hU.out 8 _ rfl rfl)) h),⟨fun _=>⟨h2.st,h2.f,fun _=>⟨n3,A5,l3,c5,m3,B5,k3,d5,x3,rfl,ht3⟩,h2.m,h2.a⟩,fun h=>no_f (Eq.trans (Eq.symm f_11) h)⟩⟩
  ·have t_6:L 6=true:=(hN.out 6 rfl);have f_9:L 9=false:=(hU.out 9 _ rfl rfl);have f_11:L 11=false:=(Shut.no hC 11 9 rfl rfl (hU.out 9 _ rfl rfl));obtain⟨n3,A5,l3,c5,m3,B5,k3,d5,x3,eM,_⟩:=(hJ.1 f_11).d (hN.out 6 rfl);simp only[eM]at hK⊢;go_simp;refine hK.out _ _ ?_;exact⟨hV.eff 7,fun _=>(by show _=exv 0 (s 6);rw[eM];rfl),h_8,hJ⟩
  ·have t_6:L 6=true:=(hN.out 6 rfl);have f_9:L 9=false:=(hU.out 9 _ rfl rfl);have f_11:L 11=false:=(Shut.no hC 11 9 rfl rfl (hU.out 9 _ rfl rfl));obtain⟨n3,A5,l3,c5,m3,B5,k3,d5,x3,eM,_⟩:=(hJ.1 f_11).d (hN.out 6 rfl);simp only[eM]at hK⊢;go_simp;refine hK.out _ _ ?_;exact⟨hV.eff 8,h_7,fun _=>(by show _=exv 1 (s 6);rw[eM];rfl),hJ⟩
  ·rw[hV.at 0 (hN.out 0 rfl)]at hK⊢;rw[h_7 (hN.out 7 rfl)]at hK⊢;rw[h_8 (hN.out 8 rfl)]at hK⊢;have t_6:L 6=true:=(hC.out 7 _ rfl (hN.out 7 rfl) 6 rfl);have f_11:L 11=false:=(hU.out 11 _ rfl rfl);have hF:=hJ.1 f_11;obtain⟨n3,A5,l3,c5,m3,B5,k3,d5,x3,eM,ht3⟩:=hF.d t_6;have hb9:=hF.f hi.out;rw[HCE.out]at hb9;simp only[eM,exv_0,exv_1]at hK⊢;go_simp;go_at_call 40;refine(fmust_any hb9 ht3).mono ?_;rintro e w10 ⟨p4,r4,A4,c4,B4,d4,b4,rfl,hq4,hbf4,ho4⟩;exact hK.out _ _ ⟨hV.eff 9,h_7,h_8,⟨fun _=>⟨hF.st.trans p4,fun h=>no_t h,fun _=>⟨n3,A5,l3,c5,m3,B5,k3,d5,x3,eM,ht3.fst p4⟩,fun _=>⟨r4,A4,c4,B4,d4,b4,rfl,hq4,by rw[HCE.out];exact hbf4,ho4⟩,fun h=>(hF.a h).elim fun k hk=>⟨k,hk.1,p4.blk hk.2.1 (by have:=hk.2.2;omega),hk.2.2⟩⟩,fun h=>no_f (Eq.trans (Eq.symm f_11) h)⟩⟩
  ·have f_11:L 11=false:=(hU.out 11 _ rfl rfl);have hF:=hJ.1 f_11;have h2:=hF.grow (bA1 w9 (.cells z4 72));go_simp;exact hK.out _ _ ⟨hV.eff 10,h_7,h_8,⟨fun _=>⟨h2.st,h2.f,h2.d,h2.m,fun _=>⟨w9.heap.size,rfl,Blk.new _ _ _,hF.st.stp.size⟩⟩,fun h=>no_f (Eq.trans (Eq.symm f_11) h)⟩⟩
  ·have t_6:L 6=true:=(hC.out 7 _ rfl (hC.out 9 _ rfl (hN.out 9 rfl) 7 rfl) 6 rfl);have t_9:L 9=true:=(hN.out 9 rfl);have t_10:L 10=true:=(hN.out 10 rfl);have hF:=hJ.1 hi.out;obtain⟨r4,A4,c4,B4,d4,b4,e9,hq4,hb4,ho4⟩:=hF.m t_9;obtain⟨k,e10,b9,hk⟩:=hF.a t_10;simp only[e9,e10]at hK⊢;refine wp_store_row _ _ _ rfl k _ rfl rfl _ _ b9 info_rat rfl (by rw[←Array.all_toList];rfl) ?_;exact hK.out undef _ ⟨hV.eff 11,h_7,h_8,⟨fun h=>no_t h,fun _=>⟨hF.st.own (b9.box rfl) (sRG _ _ _) hk,k,r4,A4,c4,B4,d4,b4,e10,b9.row _,hq4.boxed (b9.box rfl) (sRG _ _ _),((sRG _ _ _).block _ hb4.lt (fun e=>by injection e with e;omega)).trans hb4,ho4⟩⟩⟩
 intro L s w9 hall hS;obtain⟨hV,h_7,h_8,hJ⟩:=hS;have t_6:=hall 6 (by decide);have t_9:=hall 9 (by decide);have t_10:=hall 10 (by decide);have t_11:=hall 11 (by decide);clear hall hV h_7 h_8;obtain⟨hs1,k,r,A4,c4,B4,d4,b',e10,hk4,hq4,hb4,ho4⟩:=hJ.2 t_11;simp only[e10];have HS1:=ZH (HFM.out.trans hs1);have HQ4:=ZH hq4;have HB4:=ZH hb4;have HO4:=ZH ho4;obtain⟨x0,x1,x2,x3⟩:=hk4.four;have x10:w9.cell? ⟨g,10,none⟩=some (.bool b'):=by
  have:=hb4.cell 10;rw[HCE.out]at this;exact this
 rw[HCE.out]at HB4;clear hJ hs1 hq4 hb4 ho4 e10 t_6 t_9 t_10 t_11 hk4 v0 v1 v2 v3 r6 r7 r8 r9 HBC;obtain⟨W2,hW2⟩:∃W,W=w9:=⟨_,rfl⟩;subst hW2;cases b' with
 |true=>
  go_wp2_with fail;have hres:b=true∨farO q v=none:=by
   rcases HO4.out with ⟨_,e⟩|⟨e,_⟩
   ·exact .inl e.symm
   ·refine .inr ?_;unfold farO;rw[HO.out,e];rfl
  exact bodyPost_ret (v:= .tuple #[.int .i64 0,.bool false]) (by simp[results,Tryz.results80,go_sem]) rfl ⟨HS1.out,0,false,true,rfl,HB4.out,Int.le_refl _,.inl ⟨rfl,rfl,hres⟩⟩
 |false=>
  have hob:o=some r∧b=false:=by
   rcases HO4.out with ⟨e1,e2⟩|⟨_,e⟩
   ·exact⟨e1,e2.symm⟩
   ·cases e
  have h00:=H0.out hob.2;have hrq:r=q/v:=by
   have:=HO.out;rw[hob.1]at this;exact(div_some this).1
  have hr0:0≤r:=by
   have w0:v≠0:=by grind
   have d1:v*(q/v)=q:=by grind
   rw[←hrq]at d1;apply Rat.not_lt.1;intro hlt;have:=Rat.mul_pos h00.2 (show 0< -r by grind);grind
  have hf0:0≤r.floor:=Rat.le_floor_iff.2 hr0;have hfz:=floor_szR (show Sz r 64 from HQ4.out.few);have HFO:Hid (farO q v=some (if r.floor≤4194304 then some r.floor else none)):=by
   show _=_;unfold farO;rw[HO.out,hob.1];rfl
  have HBB:=ZH hob.2;have HFL:=ZH (pfloor_any HQ4.out);clear hob h00 hrq hr0;generalize r.floor=z at*;go_wp2_with fail;refine HFL.out.mono ?_;rintro e w3 ⟨q3,A6,c6,rfl,hz⟩;have HS3:=ZH (HS1.out.trans (FSt.of q3));have HB3:=ZH (HB4.out.below q3 ZL);have HZ:=ZH hz;have M:=(Mem.start w3).new 70 #[.bool false,.slice none 0 0];clear hz q3 x0 x1 x2 x3 x10 HFL;go_upto_region 5 with ((with_reducible refine st_ ?_);refine wP2 _ _ (M.k (i:=0) rfl) rfl rfl rfl rfl info_int rfl rfl ?_;intro w4 b4 g4;have HZ4:=ZH ((HZ.out.below (bA1 _ _) ZL).boxed ((M.k (i:=0) rfl).box rfl) g4);replace M:=M.row ZL (by simp) rfl b4 g4;have y0:=((M.k (i:=0) rfl).cell 0).trans rfl;have y1:=((M.k (i:=0) rfl).cell 1).trans rfl);have HS4:=ZH (HS3.out.trans (FSt.of M.bel));have HB4':=ZH (HB3.out.below M.bel ZL);clear b4 g4 M HZ;have HSM:=ZH (psmall_any HZ4.out (by omega));have HOZ:=ZH (smZ_ok hf0);generalize smZ z=t at*;obtain⟨t1,t2⟩:=t;go_wp2_with fail;refine HSM.out.mono ?_;rintro e w5 ⟨q5,rfl⟩;have HS5:=ZH (HS4.out.trans (FSt.of q5));have HB5:=ZH (HB4'.out.below q5 ZL);clear q5 y0 y1;rcases HOZ.out with ⟨e1,e2⟩|⟨e1,e2,e3⟩
  ·replace e1:t2=0:=e1;replace e2:t1=z:=e2;subst e1 e2;have d1:((0:Int)==0)=true:=rfl;generalize hnear:decide (t1≤4194304)=near;have HNR:=ZH hnear;clear hnear;go_wp2_with fail;refine bodyPost_ret (v:= .tuple #[.int .i64 t1,.bool near]) (by simp[results,Tryz.results80,go_sem,HNR.out]) rfl ⟨HS5.out,t1,near,false,rfl,HB5.out,hf0,.inr ⟨rfl,HBB.out,_,HFO.out,?_,fun t ht=> ?_⟩⟩
   ·by_cases hh:t1≤4194304
    ·rw[if_pos hh,←HNR.out,dT hh];rfl
    ·rw[if_neg hh,←HNR.out,dF hh];rfl
   ·by_cases hh:t1≤4194304
    ·rw[if_pos hh]at ht;injection ht
    ·rw[if_neg hh]at ht;cases ht
  ·replace e1:t2=4:=e1;replace e2:t1=0:=e2;subst e1 e2;have E3:=ZH e3;clear e3;go_wp2_with fail;refine bodyPost_ret (v:= .tuple #[.int .i64 0,.bool false]) (by simp[results,Tryz.results80,go_sem]) rfl ⟨HS5.out,0,false,false,rfl,HB5.out,Int.le_refl _,.inr ⟨rfl,HBB.out,_,HFO.out,?_,fun t ht=> ?_⟩⟩
   ·rw[if_neg (by have:=E3.out;omega)];rfl
   ·rw[if_neg (by have:=E3.out;omega)]at ht;cases ht
def CutP (g:Nat)(cells:Bool→Array Value)(o:Option (List (Int×Int)))(b:Bool)(w:World)(e:Ending)(w':World):Prop:=FSt g w w'∧∃(A:Option Addr)(c:Nat)(x:List (Int×Int))(b':Bool),e= .returned (.slice A x.length c)∧RRow w' A x∧x.length≤1000000∧Blk w' g tyFl (cells b')∧
 ((b'=true∧(b=true∨o=none))∨(b'=false∧b=false∧o=some x))
theorem fm_len {f:Int×Int→Option (Int×Int)}:∀(l:List (Int×Int)),(l.filterMap f).length≤l.length
 |[]=>Nat.le_refl _
 |x::l=>by
  rw[List.filterMap_cons];have:=fm_len (f:=f) l;split
  ·simp;omega
  ·simp;omega
theorem cutS_len (l:List (Int×Int))(lo hi:Int):(cutS l lo hi).length≤l.length:=by
 unfold cutS;split
 ·exact fm_len l
 ·exact Nat.zero_le _
theorem num_nil {q:Rat}:(sD q.num=[])↔q=0:=by
 rw[sD_nil];exact Rat.num_eq_zero
theorem sN_dec (q:Rat):sN q.num=decide (q<0):=by
 unfold sN;refine decide_eq_decide.2 ?_;have:=Rat.num_nonneg (q:=q);constructor
 ·intro h;exact Rat.not_le.1 fun h0=>by have:=this.2 h0;omega
 ·intro h;exact Int.not_le.1 fun h0=>Rat.not_le.2 h (this.1 h0)
theorem cut_out {F:Option (Option Int)}{C:Int→List (Int×Int)}{d:List (Int×Int)}{O:Option (List (Int×Int))}{wO:Option Rat}{r:Rat}{b b2 b3 near:Bool}{z:Int}(h1:wO=some r→O=F.map fun n=>match n with|none=>d|some n=>C n)(h2:wO=none→O=none)(hr:wO=some r∧b2=b∨wO=none∧b2=true)(h3:(b3=true∧near=false∧(b2=true∨F=none))∨(b3=false∧b2=false∧∃o,F=some o∧near=o.isSome∧∀t,o=some t→z=t)):(near=false→(b3=true∧(b=true∨O=none))∨(b3=false∧b=false∧O=some d))∧(near=true→b3=false∧b=false∧O=some (C z)∧F=some (some z)):=by
 rcases h3 with ⟨rfl,rfl,h3⟩|⟨rfl,rfl,o,ho,rfl,hz⟩
 ·refine⟨fun _=> .inl ⟨rfl,?_⟩,fun e=>by cases e⟩;rcases hr with ⟨e1,rfl⟩|⟨e1,rfl⟩
  ·rcases h3 with h3|h3
   ·exact .inl h3
   ·refine .inr ?_;rw[h1 e1,h3];rfl
  ·exact .inr (h2 e1)
 ·rcases hr with ⟨e1,rfl⟩|⟨_,e⟩
  ·cases o with
   |none=>
    refine⟨fun _=> .inr ⟨rfl,rfl,?_⟩,fun e=>by cases e⟩;rw[h1 e1,ho];rfl
   |some t=>
    obtain rfl:=hz t rfl;refine⟨(fun e=>by cases e),fun _=>⟨rfl,rfl,?_,ho⟩⟩;rw[h1 e1,ho];rfl
  ·cases e
theorem far_most {q v:Rat}{n:Int}(h:farO q v=some (some n)):n≤4194304:=by
 unfold farO at h;obtain⟨x,_,h2⟩:=Option.map_eq_some_iff.1 h;split at h2
 ·injection h2 with h2;omega
 ·cases h2
theorem fcut_any {w0 w:World}{g:Nat}{m:Pa}{p:Pg}{Y:Option Addr}{cY:Nat}{ys:List Rat}{q:Rat}{AQ:Option Addr}{cA:Nat}{BQ:Option Addr}{cB:Nat}{b:Bool}{j:Nat}{A:Option Addr}{c:Nat}{d:List (Int×Int)}(hw:Below w0.heap.size w0 w)(hg:w0.heap.size≤g)(hp:PgAt w0 m p)(hy:QRow w0 Y ys)(hb:Blk w g tyFl (flC m p Y ys.length cY q AQ cA BQ cB b))(hq:QR w AQ cA BQ cB q)(hl:ys.length=p.a.length)(hr:rightPg p=true)(hj:j<p.lo.length)(hd:RRow w0 A d)(hds:setB d=true)(hdl:d.length≤1000000)(hdc:d.length≤c)(hq0:0≤q):Calls Tryz.prog 43 #[vptr g,iv6 j,.slice A d.length c] w fun e w'=>CutP g (fun b=>flC m p Y ys.length cY q AQ cA BQ cB b) (cutO p ys q j d) b w e w':=by
 have HWT:=ZH (weight_any hw hg hp hy hb hl hr hj);have HP:=ZH hp;have HW:=ZH hw;have HQ:=ZH hq;have HDR:=ZH fun(w':World)(k:Below w0.heap.size w0 w')=>hd.below k;have hok:=ok_of_right hr;have HOK:=ZH hok;have hgl:=hb.lt;obtain⟨O,hO⟩:∃O,cutO p ys q j d=O:=⟨_,rfl⟩;have HO:Hid (O=(weightO p ys j).bind fun w=>if w=0 then some d else if 0<w then(farO q w).map fun n=>match n with
  |none=>d
  |some n=>cutS d (-1048576) (p.lo.getD j 0+n)
  else(farO q (-w)).map fun n=>match n with
  |none=>d
  |some n=>cutS d (p.hi.getD j 0-n) 1048576):=by
  show _=_
  rw[←hO]
  rfl
 rw[hO];have hilo: -1048576≤p.lo.getD j 0∧p.lo.getD j 0≤1048576∧-1048576≤p.hi.getD j 0∧p.hi.getD j 0≤1048576:=by
  rw[rightPg]at hr;simp only[Bool.and_eq_true,decide_eq_true_eq]at hr;obtain⟨_,h2,_,_,_,h6,h7,_⟩:=hr;unfold nearL at h6 h7;rw[List.all_eq_true]at h6 h7;have k6:=h6 _ (getD_in (z:=0) hj);have k7:=h7 _ (getD_in (z:=0) (by rw[h2];exact hj));simp only[Bool.and_eq_true,decide_eq_true_eq]at k6 k7;omega
 have HSD:=ZH hds;clear hw hp hy hb hq hl hr hO hok hd hds;go_enter Tryz.func43,Tryz.ntmps43;go_wp2_with fail;refine HWT.out.mono ?_;rintro e w1 ⟨hs1,r,A1,c1,B1,d1,b1,rfl,hqr,hbf,hres⟩;have HS1:=ZH hs1;have HQR:=ZH hqr;have HBF1:=ZH hbf;have HR1:=ZH hres;have hws:=hs1.stp.size;have M:=(Mem.start w1).new 72 z4;clear hs1 hqr hbf hres HWT;go_upto_region 2 with ((with_reducible refine st_ ?_);refine wP2 _ _ (M.k (i:=0) rfl) rfl rfl rfl rfl info_rat rfl rfl ?_;intro w2 b2 g2;have HQR2:=ZH ((HQR.out.below (bA1 _ _)).boxed ((M.k (i:=0) rfl).box rfl) g2);replace M:=M.row ZL (by simp) rfl b2 g2);have HS:=ZH (HS1.out.trans (FSt.of M.bel));have HBF:=ZH (HBF1.out.below M.bel ZL);have HK:=ZH (M.k (i:=0) rfl);have hk1:=(M.k (i:=0) rfl).lt;obtain⟨x0,x1,x2,x3⟩:=(M.k (i:=0) rfl).four;have hgk:g<w1.heap.size:=by omega
 generalize hk7:w1.heap.size=k7 at*;clear hk7 M b2 g2 HQR HBF1 HS1;by_cases r0:r=0
 ·have HRES:Hid ((b1=true∧(b=true∨O=none))∨(b1=false∧b=false∧O=some d)):=by
   rcases HR1.out with ⟨e1,e2⟩|⟨e1,e2⟩
   ·cases hb1:b1 with
    |true=>exact .inl ⟨rfl,.inl (by rw[←e2,hb1])⟩
    |false=>
     refine .inr ⟨rfl,by rw[←e2,hb1],?_⟩;rw[HO.out,e1];show(if r=0 then _ else _)=_;rw[if_pos r0]
   ·refine .inl ⟨e2,.inr ?_⟩;rw[HO.out,e1];rfl
  have hl0:(sD r.num).length=0:=by rw[r0];decide
  rw[hl0]at x1;clear r0 HR1 HO hl0;go_wp2_with fail;exact bodyPost_ret (v:= .slice A d.length c) (by simp[results,Tryz.results43,go_sem]) rfl ⟨HS.out,A,c,d,b1,rfl,HDR.out _ (HS.out.below HW.out hg),hdl,HBF.out,HRES.out⟩
 ·have hl1:(((sD r.num).length:Int)==0)=false:=beq_false_of_ne (by
   have:sD r.num≠[]:=fun e=>r0 (num_nil.1 e);have:=List.length_pos_iff.2 this;omega)
  by_cases hneg:r<0
  ·have hsn:sN r.num=true:=by rw[sN_dec];exact dT hneg
   rw[hsn]at x0;have HON:Hid (weightO p ys j=none→O=none):=fun e=>by rw[HO.out,e];rfl
   have HOV:Hid (weightO p ys j=some r→O=(farO q (-r)).map fun n=>match n with|none=>d|some n=>cutS d (p.hi.getD j 0-n) 1048576):=fun e=>by
    rw[HO.out,e];show(if r=0 then _ else _)=_;rw[if_neg r0,if_neg (fun h=>by have:=hneg;grind)]
   have HNEG:=ZH hneg;have hng:=fneg_any HQR2.out;unfold qv at hng;rw[hsn]at hng;have HNG:=ZH hng;clear HO r0 hneg hsn hng;go_wp2_with fail;refine HNG.out.mono ?_;rintro e w3 ⟨q3,n3,A5,l3,c5,m3,B5,k3,d5,x3',rfl,ht3⟩;have HK3:=ZH (HK.out.below q3 ZL);have HS3:=ZH (HS.out.trans (FSt.of q3));have HMU:=ZH (fmust_any (HBF.out.below q3 ZL) ht3);clear q3 ht3;go_wp2_with fail;refine HMU.out.mono ?_;rintro e w4 ⟨hs4,r2,A6,c6,B6,d6,b2,rfl,hq2,hbf2,ho2⟩;have hk4:=hs4.blk HK3.out (by omega);have HS4:=ZH (HS3.out.trans hs4);have HQ2:=ZH hq2;have HBF2:=ZH hbf2;obtain⟨rfl,rfl⟩:r2= -r∧b2=b1:=by
    rcases ho2 with ⟨e1,e2⟩|⟨e1,_⟩
    ·injection e1 with e1;exact⟨e1.symm,e2⟩
    ·cases e1
   clear hs4 hq2 hbf2 ho2 HMU HK3 HS3 x0 x1 x2 x3 HQR2 HBF HS HK;go_upto_region 7 with ((with_reducible refine st_ ?_);refine wP2 _ _ hk4 rfl rfl rfl rfl info_rat rfl rfl ?_;intro w5 b5 g5;obtain⟨x0,x1,x2,x3⟩:=b5.four);have HS:=ZH (HS4.out.own (hk4.box rfl) g5 (by omega));have HBF:=ZH ((g5.block _ HBF2.out.lt (fun e=>by injection e with e;omega)).trans HBF2.out:Blk w5 g tyFl (flC m p Y ys.length cY q AQ cA BQ cB b2));have HQV:=ZH (HQ2.out.boxed (hk4.box rfl) g5);have HPOS:Hid (b2=false→0≤q∧0< -r):=fun _=>⟨hq0,by have:=HNEG.out;grind⟩;clear HQ2 HBF2 HS4 b5 g5 hk4;have hfr:=far_any HBF.out (HS.out.qr HQ.out) HQV.out HPOS.out;skip;have HFR:=ZH hfr;clear hfr;go_wp2_with fail;refine HFR.out.mono ?_;rintro e w3 ⟨hs3,z,near,b3,rfl,hb3,hz0,hres3⟩;have HCO:=ZH (cut_out (C:=fun z=>cutS d (p.hi.getD j 0-z) 1048576) (z:=z) HOV.out HON.out HR1.out hres3);have HFM:=ZH (fun(v':Rat)(n:Int)(h:farO q v'=some (some n))=>far_most h);replace HS:=ZH (HS.out.trans hs3);replace HBF:=ZH hb3;have HWW:=ZH (HS.out.below HW.out hg);clear hs3 hb3 hres3 HFR HQV HPOS HOV HON HR1 x0 x1 x2 x3;cases near with
   |false=>
    have HRES:=ZH (HCO.out.1 rfl);clear HCO;go_wp2_with fail;exact bodyPost_ret (v:= .slice A d.length c) (by simp[results,Tryz.results43,go_sem]) rfl ⟨HS.out,A,c,d,b3,rfl,HDR.out _ (HS.out.below HW.out hg),hdl,HBF.out,HRES.out⟩
   |true=>
    obtain⟨e1,e2,e3,e4⟩:=HCO.out.2 rfl;have hz1:=HFM.out _ z e4;have HRES:Hid ((b3=true∧(b=true∨O=none))∨(b3=false∧b=false∧O=some (cutS d (p.hi.getD j 0-z) 1048576))):= .inr ⟨e1,e2,e3⟩;have fc:w3.cell? ⟨g,1,none⟩=some (.slice m.hi.1 p.hi.length m.hi.2):=HBF.out.cell 1;obtain⟨gg,oo,hL,cj⟩:=HP.out.hi j (by rw[HOK.out.hi];exact hj);replace cj:w0.cell? ⟨gg,oo+j,none⟩=some (.int .i64 (p.hi.getD j 0)):=cj;have cj':=Lk.of cj _ HWW.out;rw[hL]at fc;have hjl:j<p.hi.length:=by rw[HOK.out.hi];exact hj
    have hb:=hilo;have HCUT:=ZH (fun(lo hi:Int)=>setcut_any (lo:=lo) (hi:=hi) (c:=c) (HDR.out _ HWW.out) hdl HSD.out hdc);have HCL:=ZH (fun(lo hi:Int)=>cutS_len d lo hi);clear e1 e2 e3 e4 HCO cj hL HFM;generalize p.hi.getD j 0=a at*;generalize p.hi.length=la at*;have y1:IntKind.i64.wrap (a-z)=a-z:=by rw[IntKind.wrap_i64];omega
    have y2:wrap64 (a-z)=a-z:=IntWalk.wrap64_in _ ⟨by omega,by omega⟩;go_wp2_with fail;refine(HCUT.out (a-z) 1048576).mono ?_;rintro e w4 ⟨BB,cc,rfl,hrr,q4⟩;have HS4:=ZH (HS.out.trans (FSt.of q4));have HBF4:=ZH (HBF.out.below q4 ZL);have HRR:=ZH hrr;have hcl:=HCL.out (a-z) 1048576;clear hrr q4;generalize cutS d (a-z) 1048576=x at*;go_wp2_with fail;exact bodyPost_ret (v:= .slice BB x.length cc) (by simp[results,Tryz.results43,go_sem]) rfl ⟨HS4.out,BB,cc,x,b3,rfl,HRR.out,by omega,HBF4.out,HRES.out⟩
  ·have hsn:sN r.num=false:=by rw[sN_dec];exact dF hneg
   rw[hsn]at x0;have hpos:0<r:=by
    apply Rat.not_le.1;intro h;exact r0 (Rat.le_antisymm h (Rat.not_lt.1 hneg))
   have HON:Hid (weightO p ys j=none→O=none):=fun e=>by rw[HO.out,e];rfl
   have HOV:Hid (weightO p ys j=some r→O=(farO q r).map fun n=>match n with|none=>d|some n=>cutS d (-1048576) (p.lo.getD j 0+n)):=fun e=>by
    rw[HO.out,e];show(if r=0 then _ else _)=_;rw[if_neg r0,if_pos hpos]
   have HPOS:Hid (b1=false→0≤q∧0<r):=fun _=>⟨hq0,hpos⟩;have HQV:=ZH HQR2.out;have HSN:=ZH hsn;clear HO r0 hneg hsn hpos HQR2 HK;have hfr:=far_any HBF.out (HS.out.qr HQ.out) HQV.out HPOS.out;unfold qv at hfr;rw[HSN.out]at hfr;have HFR:=ZH hfr;clear hfr;go_wp2_with fail;refine HFR.out.mono ?_;rintro e w3 ⟨hs3,z,near,b3,rfl,hb3,hz0,hres3⟩;have HCO:=ZH (cut_out (C:=fun z=>cutS d (-1048576) (p.lo.getD j 0+z)) (z:=z) HOV.out HON.out HR1.out hres3);have HFM:=ZH (fun(v':Rat)(n:Int)(h:farO q v'=some (some n))=>far_most h);replace HS:=ZH (HS.out.trans hs3);replace HBF:=ZH hb3;have HWW:=ZH (HS.out.below HW.out hg);clear hs3 hb3 hres3 HFR HQV HPOS HOV HON HR1 x0 x1 x2 x3;cases near with
   |false=>
    have HRES:=ZH (HCO.out.1 rfl);clear HCO;go_wp2_with fail;exact bodyPost_ret (v:= .slice A d.length c) (by simp[results,Tryz.results43,go_sem]) rfl ⟨HS.out,A,c,d,b3,rfl,HDR.out _ (HS.out.below HW.out hg),hdl,HBF.out,HRES.out⟩
   |true=>
    obtain⟨e1,e2,e3,e4⟩:=HCO.out.2 rfl;have hz1:=HFM.out _ z e4;have HRES:Hid ((b3=true∧(b=true∨O=none))∨(b3=false∧b=false∧O=some (cutS d (-1048576) (p.lo.getD j 0+z)))):= .inr ⟨e1,e2,e3⟩;have fc:w3.cell? ⟨g,0,none⟩=some (.slice m.lo.1 p.lo.length m.lo.2):=HBF.out.cell 0;obtain⟨gg,oo,hL,cj⟩:=HP.out.lo j (by exact hj);replace cj:w0.cell? ⟨gg,oo+j,none⟩=some (.int .i64 (p.lo.getD j 0)):=cj;have cj':=Lk.of cj _ HWW.out;rw[hL]at fc;have hjl:j<p.lo.length:=by exact hj
    have hb:=hilo;have HCUT:=ZH (fun(lo hi:Int)=>setcut_any (lo:=lo) (hi:=hi) (c:=c) (HDR.out _ HWW.out) hdl HSD.out hdc);have HCL:=ZH (fun(lo hi:Int)=>cutS_len d lo hi);clear e1 e2 e3 e4 HCO cj hL HFM;generalize p.lo.getD j 0=a at*;generalize p.lo.length=la at*;have y1:IntKind.i64.wrap (a+z)=a+z:=by rw[IntKind.wrap_i64];omega
    have y2:wrap64 (a+z)=a+z:=IntWalk.wrap64_in _ ⟨by omega,by omega⟩;go_wp2_with fail;refine(HCUT.out (-1048576) (a+z)).mono ?_;rintro e w4 ⟨BB,cc,rfl,hrr,q4⟩;have HS4:=ZH (HS.out.trans (FSt.of q4));have HBF4:=ZH (HBF.out.below q4 ZL);have HRR:=ZH hrr;have hcl:=HCL.out (-1048576) (a+z);clear hrr q4;generalize cutS d (-1048576) (a+z)=x at*;go_wp2_with fail;exact bodyPost_ret (v:= .slice BB x.length cc) (by simp[results,Tryz.results43,go_sem]) rfl ⟨HS4.out,BB,cc,x,b3,rfl,HRR.out,by omega,HBF4.out,HRES.out⟩
theorem addr_at (g o j:Nat):(⟨g,o,none⟩:Addr).add j=⟨g,o+j,none⟩:=by
 by_cases e:j=0
 ·subst e;simp[Addr.add]
 ·simp[Addr.add,e]
theorem flatR_len:∀l:List (Int×Int),(flatR l).length=l.length*2
 |[]=>rfl
 |x::l=>by
  show(flatR l).length+1+1=_;rw[flatR_len l,List.length_cons];omega
theorem flatR_one:∀l:List (Int×Int),∀u∈flatR l,u.oneCell'=true
 |[],u,h=>by cases h
 |x::l,u,h=>by
  rcases List.mem_cons.1 h with rfl|h
  ·rfl
  ·rcases List.mem_cons.1 h with rfl|h
   ·rfl
   ·exact flatR_one l u h
theorem RRow.cells {w:World}{g o:Nat}{l:List (Int×Int)}(h:RRow w (some ⟨g,o,none⟩) l)(j:Nat)(u:Value)(hj:(flatR l)[j]? =some u):w.cell? ((⟨g,o,none⟩:Addr).add j)=some u:=by
 have hjl:=(List.getElem?_eq_some_iff.1 hj).1;rw[flatR_len]at hjl;obtain⟨g',o',e,hc⟩:=h j hjl;cases e;rw[addr_at,hc];have hk:=flatR_at l (j/2) (by omega);rcases Nat.mod_two_eq_zero_or_one j with e|e
 ·rw[show j/2*2=j by omega]at hk;rw[hk.1]at hj;dsimp only;rw[if_pos e];exact hj
 ·rw[show j/2*2+1=j by omega]at hk;rw[hk.2]at hj;dsimp only;rw[if_neg (by omega)];exact hj
theorem RRow.own {w:World}{base:Nat}{A:Option Addr}{c:Nat}{l:List (Int×Int)}(h:w.ownsRow base tyRg 2 (.slice A l.length c) l.length (flatR l)):RRow w A l:=fun i hi=>by
 rcases h.2 with ⟨_,h2⟩|⟨g,cap,cur,hv,_⟩
 ·omega
 ·cases hv;refine⟨g,0,rfl,?_⟩;have hk:=flatR_at l (i/2) (by omega);rcases Nat.mod_two_eq_zero_or_one i with e|e
  ·rw[show i/2*2=i by omega]at hk;have h2:=World.ownsRow.cells h (g:=g) rfl i _ hk.1;rw[addr_at]at h2;dsimp only;rw[if_pos e];exact h2
  ·rw[show i/2*2+1=i by omega]at hk;have h2:=World.ownsRow.cells h (g:=g) rfl i _ hk.2;rw[addr_at]at h2;dsimp only;rw[if_neg (by omega)];exact h2
theorem wp_cloneR {ops:Array Oper}{rest:List Oper}{o:Oper}{a:Act}{Q:Exit→Act→World→Prop}(s x:Operand)(w:World)(base:Nat)(k:Nat)(A:Option Addr)(l:List (Int×Int))(c:Nat)(hown:w.ownsRow base tyRg 2 (.slice (some ⟨k,0,none⟩) 0 0) 0 [])(hr:RRow w A l)(hb:base≤w.heap.size)(hl:l.length≤1000000)(hw:Region.wanted o (yielded ops a.tmps)=true)(ho:o.op= .call {callee:= .builtin .append,args:= #[s,x],argTypes:= #[66,66]})(hs:a.eval s= .slice (some ⟨k,0,none⟩) 0 0)(hx:a.eval x= .slice A l.length c)(K:∀B c' w',RRow w' B l→Below base w w'→(∀k,bl B=some k→base≤k∧k<w'.heap.size)→wpList Tryz.prog ops Q rest (a.put o.dst (.slice B l.length c')) w'):wpList Tryz.prog ops Q (o::rest) a w:=by
 refine wpList_wanted hw fun KK hKK=> ?_;obtain⟨i0,hi,hz0,hz1,hz2⟩:=info_parts info_rgz;have hu:Tryz.prog.underlying 66=some (.slice 65):=Tryz.underlying66;have key:∃B c' w',(Builtin.append_ #[66,66] o.type #[.slice (some ⟨k,0,none⟩) 0 0,.slice A l.length c]).run Tryz.prog w= .ok (.slice B l.length c') w'∧RRow w' B l∧Below base w w'∧(∀k,bl B=some k→base≤k∧k<w'.heap.size):=by
  cases l with
  |nil=>
   have hsrc:Src Tryz.prog i0.size 66 (.slice A 0 c) 0 [] w:=by
    cases A with
    |none=>exact Src.ofNil w hu c
    |some ad=>exact Src.ofSlice w hu ad 0 c [] (by simp) (fun j u h=>by cases h) (fun u h=>by cases h)
   exact⟨_,_,w,run_append_nothing w _ _ _ _ i0 hu hi _ _ _ ZL _ hsrc,fun j hj=>absurd hj (Nat.not_lt_zero _),Below.refl _ _,fun k hk=>World.ownsRow.lt hown k (by rw[own_bl];exact hk)⟩
  |cons z l=>
   obtain⟨g,off,rfl,_⟩:=hr 0 (by simp);obtain⟨v',w',hr2,r1,r2,_⟩:=run_append_own (P:=Tryz.prog) w base 66 o.type 65 i0 (.agg #[.int .i64 0,.int .i64 0]) 2 16 hu hi hz0 hz1 hz2 rfl (by decide) _ 0 [] hown ⟨g,off,none⟩ (z::l).length c (flatR (z::l)) (flatR_len _) (fun j u hj=>hr.cells j u hj) (flatR_one _) (by unfold maxLen;omega) (by omega) hb;have hn:0+(z::l).length=(z::l).length:=Nat.zero_add _;rw[hn,zC]at r1;rcases r1.2 with ⟨_,h2⟩|⟨g',cap,cur,rfl,_⟩
   ·simp at h2
   ·exact⟨_,_,w',hr2,RRow.own r1,(Below.refl base w).grown r2 hb (fun k hk=>(World.ownsRow.lt hown k hk).1),fun k hk=>World.ownsRow.lt r1 k (by rw[own_bl];exact hk)⟩
 obtain⟨B,c',w',hr,h1,h2,h3⟩:=key;unfold Oper.wp execOp;simp only[ho,resolve,invoke,builtin,Sem.run_bind,Sem.run_pure,Result.andThen_ok,List.map_toArray,List.map_cons,List.map_nil,hs,hx,hr];exact hKK _ _ (K B c' w' h1 h2 h3)
theorem rclone_any {A:Option Addr}{c:Nat}{l:List (Int×Int)}{w:World}(h:RRow w A l)(hs:l.length≤1000000):Calls Tryz.prog 44 #[.slice A l.length c] w fun e w'=>∃B c',e= .returned (.slice B l.length c')∧RRow w' B l∧Below w.heap.size w w'∧∀k,bl B=some k→w.heap.size≤k∧k<w'.heap.size:=by
 rcases A with _|ad
 ·have hx:l=[]:=by
   rcases l with _|⟨x,l⟩
   ·rfl
   ·obtain⟨b,o,h,_⟩:=h 0 (by simp);cases h
  subst hx;have hq:=fun(w:World)=>Lib.run_eql_slice_nil (P:=Tryz.prog) w 66 65 none 0 c 0 0 Tryz.underlying66;go_enter Tryz.func44,Tryz.ntmps44;go_wp2;go_ret;exact⟨none,0,rfl,fun j hj=>absurd hj (Nat.not_lt_zero _),Below.refl _ _,fun k hk=>by cases hk⟩
 ·have hq:=fun(w:World)=>Lib.run_eql_slice_nil (P:=Tryz.prog) w 66 65 (some ad) l.length c 0 0 Tryz.underlying66;have hown:(w.alloc (.cells #[] 65)).ownsRow w.heap.size tyRg 2 (.slice (some ⟨w.heap.size,0,none⟩) 0 0) 0 []:=World.ownsRow_made w #[] 0 ZL (by simp[maxLen]) (by simp);have hra:=h.below (bA1 w (.cells #[] 65));have hbel:=bA1 w (.cells #[] 65);have HO:=ZH hown;have HB:=ZH hbel;clear hown hbel;go_enter Tryz.func44,Tryz.ntmps44;go_wp2_with (at_builtin;refine wp_cloneR _ _ _ w.heap.size w.heap.size (some ad) l c HO.out hra HB.out.size hs rfl rfl rfl rfl ?_;intro B2 c2 w' hr2 hbel' hnb);have HR:=ZH hr2;have HQ:=ZH (HB.out.trans hbel');have HN:=ZH hnb;clear hr2 hbel' hnb;go_ret;exact⟨B2,c2,rfl,HR.out,HQ.out,HN.out⟩
def cutsF (free:Bool)(p:Pg)(y:List Rat)(room:Rat):Nat→List (List (Int×Int))→Option (List (List (Int×Int)))
 |_,[]=>some []
 |j,d::l=>(if free then some d else cutO p y room j d).bind fun x=>(cutsF free p y room (j+1) l).map fun o=>x::o
theorem cutsF_true (p:Pg)(y:List Rat)(room:Rat):∀(l:List (List (Int×Int)))(j:Nat),cutsF true p y room j l=some l
 |[],_=>rfl
 |d::l,j=>by
  show(cutsF true p y room (j+1) l).map (fun o=>d::o)=_;rw[cutsF_true p y room l (j+1)];rfl
theorem cutsF_false (p:Pg)(y:List Rat)(room:Rat):∀(l:List (List (Int×Int)))(j:Nat),cutsF false p y room j l=cutsO p y room j l
 |[],_=>rfl
 |d::l,j=>by
  show(cutO p y room j d).bind (fun x=>(cutsF false p y room (j+1) l).map fun o=>x::o)=(cutO p y room j d).bind fun x=>(cutsO p y room (j+1) l).map fun o=>x::o;rw[cutsF_false p y room l (j+1)]
theorem cutsF_eq {limit:Int}{p:Pg}{y:List Rat}{room:Rat}{d:List (List (Int×Int))}:(if limit=1099511627776 then some d else cutsO p y room 0 d)=cutsF (decide (limit=1099511627776)) p y room 0 d:=by
 by_cases h:limit=1099511627776
 ·rw[if_pos h,dT h,cutsF_true]
 ·rw[if_neg h,dF h,cutsF_false]
theorem cutsF_step {free:Bool}{p:Pg}{y:List Rat}{room:Rat}{j:Nat}{d x:List (Int×Int)}{l:List (List (Int×Int))}{xs:List (List (Int×Int))}{R:Option (List (List (Int×Int)))}{b b':Bool}(h:(b=false∧R=(cutsF free p y room j (d::l)).map fun o=>xs++o)∨(b=true∧R=none))(h1:(b'=true∧(b=true∨(if free then some d else cutO p y room j d)=none))∨(b'=false∧b=false∧(if free then some d else cutO p y room j d)=some x)):(b'=false∧R=(cutsF free p y room (j+1) l).map fun o=>(xs++[x])++o)∨(b'=true∧R=none):=by
 rcases h with ⟨rfl,rfl⟩|⟨rfl,rfl⟩
 ·rcases h1 with ⟨rfl,h1|h1⟩|⟨rfl,_,h1⟩
  ·cases h1
  ·refine .inr ⟨rfl,?_⟩;show Option.map _ ((if free then some d else cutO p y room j d).bind fun x=>(cutsF free p y room (j+1) l).map fun o=>x::o)=none;rw[h1];rfl
  ·refine .inl ⟨rfl,?_⟩;show Option.map _ ((if free then some d else cutO p y room j d).bind fun x=>(cutsF free p y room (j+1) l).map fun o=>x::o)=_;rw[h1];show Option.map _ ((cutsF free p y room (j+1) l).map fun o=>x::o)=_;rw[Option.map_map];congr 1;funext o;show xs++x::o=(xs++[x])++o;rw[List.append_assoc];rfl
 ·rcases h1 with ⟨rfl,_⟩|⟨_,e,_⟩
  ·exact .inr ⟨rfl,rfl⟩
  ·cases e
theorem emptyB_app (xs:List (List (Int×Int)))(x:List (Int×Int)):emptyB (xs++[x])=(emptyB xs||decide ((x.length:Int)=0)):=by
 unfold emptyB;rw[List.any_append,List.any_cons,List.any_nil,Bool.or_false];congr 1;cases x with
 |nil=>rfl
 |cons a l=>
  show false=decide (((l.length+1:Nat):Int)=0);rw[dF (by omega)]
abbrev tyRs:TypeId:=66
def domVs (ds:List Adr)(xs:List (List (Int×Int))):List Value:=(List.range xs.length).map fun i=> .slice (ds.getD i ad0).1 (xs.getD i []).length (ds.getD i ad0).2
theorem domVs_at {ds:List Adr}{xs:List (List (Int×Int))}{i:Nat}(hi:i<xs.length):(domVs ds xs)[i]? =some (.slice (ds.getD i ad0).1 (xs.getD i []).length (ds.getD i ad0).2):=by
 unfold domVs;rw[List.getElem?_map,List.getElem?_range hi];rfl
theorem domVs_app {ds:List Adr}{xs:List (List (Int×Int))}{R:Adr}{x:List (Int×Int)}(h:ds.length=xs.length):domVs (ds++[R]) (xs++[x])=domVs ds xs++[.slice R.1 x.length R.2]:=by
 unfold domVs;rw[List.length_append,List.length_singleton,List.range_succ,List.map_append];congr 1
 ·refine List.map_congr_left fun i hi=> ?_;have hi:=List.mem_range.1 hi;rw[getD_app (l:=ds) (by omega),if_pos (by omega),getD_app (l:=xs) (by omega),if_pos (by omega)]
 ·show[Value.slice ((ds++[R]).getD xs.length ad0).1 ((xs++[x]).getD xs.length []).length ((ds++[R]).getD xs.length ad0).2]=[_];rw[getD_app (l:=ds) (by omega),if_neg (by omega),getD_app (l:=xs) (by omega),if_neg (by omega)]
structure DOwn (w:World) (base:Nat) (B:Option Addr) (cB:Nat) (ds:List Adr) (xs:List (List (Int×Int))):Prop where
 ap:NRow w base tyRs 1 (.slice B xs.length cB) xs.length (domVs ds xs)
 ar:∀i,i<xs.length→RRow w (ds.getD i ad0).1 (xs.getD i [])
 dl:ds.length=xs.length
 fx:∀i,i<xs.length→∀k,bl (ds.getD i ad0).1=some k→k<w.heap.size∧bl B≠some k∧base≤k
theorem DOwn.nil (w:World)(base:Nat):DOwn w base none 0 [] []:=⟨NRow.nil _ _ _ _,fun i hi=>absurd hi (Nat.not_lt_zero _),rfl,fun i hi=>absurd hi (Nat.not_lt_zero _)⟩
theorem DOwn.below {w w':World}{base:Nat}{B:Option Addr}{cB:Nat}{ds:List Adr}{xs:List (List (Int×Int))}(h:DOwn w base B cB ds xs)(q:Below w.heap.size w w'):DOwn w' base B cB ds xs:=
 ⟨h.ap.below q,fun i hi=>(h.ar i hi).below q,h.dl,fun i hi k hk=>⟨Nat.lt_of_lt_of_le (h.fx i hi k hk).1 q.size,(h.fx i hi k hk).2⟩⟩
theorem DOwn.ds {w:World}{base:Nat}{B:Option Addr}{cB:Nat}{ds:List Adr}{xs:List (List (Int×Int))}(h:DOwn w base B cB ds xs):DsAt w B ds xs:=⟨h.ap.crow fun j hj=>domVs_at hj,h.ar⟩
theorem DOwn.stp {S:Nat→Prop}{w w':World}{base:Nat}{B:Option Addr}{cB:Nat}{ds:List Adr}{xs:List (List (Int×Int))}(h:DOwn w base B cB ds xs)(k:Stp S w w')(hS:∀b,S b→b<base):DOwn w' base B cB ds xs:=by
 refine⟨h.ap.stp k fun g hg hs=> ?_,fun i hi=>CRow.stp (h.ar i hi) k fun g hg hs=> ?_,h.dl,fun i hi b hb=>⟨Nat.lt_of_lt_of_le (h.fx i hi b hb).1 k.size,(h.fx i hi b hb).2⟩⟩
 ·have:=(h.ap.ltBl hg).1;have:=hS g hs;omega
 ·have:=(h.fx i hi g hg).2.2;have:=hS g hs;omega
theorem DOwn.push {w w':World}{base:Nat}{B B':Option Addr}{cB c':Nat}{ds:List Adr}{xs:List (List (Int×Int))}{R:Adr}{x:List (Int×Int)}(h:DOwn w base B cB ds xs)(hR:RRow w R.1 x)(hk:∀k,bl R.1=some k→k<w.heap.size∧bl B≠some k∧base≤k)(hr:NRow w' base tyRs 1 (.slice B' (xs.length+1) c') (xs.length+1) (domVs ds xs++[.slice R.1 x.length R.2]))(hgr:w.grownBy w' (bl B))(hat:bl B'=bl B∨∀k,bl B'=some k→w.heap.size≤k):DOwn w' base B' c' (ds++[R]) (xs++[x]):=by
 have hs:Stp (fun k=>bl B=some k) w w':=by
  cases hx:bl B with
  |none=>
   rw[hx]at hgr;exact⟨hgr.os,hgr.tape,hgr.output,hgr.size,fun k hk _=>hgr.block k hk (by simp),fun r=>Rd.below r ⟨hgr.os,hgr.tape,hgr.output,hgr.size,fun k hk=>hgr.block k hk (by simp)⟩ ZL⟩
  |some b=>
   rw[hx]at hgr;exact Stp.wrote (h.ap.boxBl hx) hgr rfl
 have hl:(xs++[x]).length=xs.length+1:=by rw[List.length_append,List.length_singleton]
 have gt:∀i,i<xs.length+1→(ds++[R]).getD i ad0=if i<xs.length then ds.getD i ad0 else R:=fun i hi=>by
  rw[getD_app (l:=ds) (by rw[h.dl];exact hi),h.dl]
 have nb:∀k,k<w.heap.size→bl B≠some k→bl B'≠some k:=fun k hk hn e=>by
  rcases hat with h1|h1
  ·exact hn (h1▸e)
  ·have:=h1 k e;omega
 refine⟨?_,fun i hi=> ?_,by rw[List.length_append,hl,h.dl];rfl,fun i hi b hb=> ?_⟩
 ·rw[hl,domVs_app h.dl];exact hr
 ·rw[hl]at hi;rw[gt i hi,getD_app (l:=xs) hi];split
  ·rename_i hi2;exact CRow.stp (h.ar i hi2) hs fun g hg e=>(h.fx i hi2 g hg).2.1 e
  ·exact CRow.stp hR hs fun g hg e=>(hk g hg).2.1 e
 ·rw[hl]at hi;rw[gt i hi]at hb;have old:b<w.heap.size∧bl B≠some b∧base≤b:=by
   split at hb
   ·rename_i hi2;exact h.fx i hi2 b hb
   ·exact hk b hb
  exact⟨Nat.lt_of_lt_of_le old.1 hgr.size,nb b old.1 old.2.1,old.2.2⟩
theorem info_rsl:(Tryz.prog.info? 66).map (fun i=>(i.zero,i.size,i.bytes))=some (some (.slice none 0 0),1,24):=by kernel_rfl
end Go.Proofs.YtecfcjdgmpopjaaGreat

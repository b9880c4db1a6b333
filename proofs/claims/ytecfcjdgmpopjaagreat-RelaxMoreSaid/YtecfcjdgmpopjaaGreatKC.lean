/-
  Joined texts: KA, KB, KC.
-/
import Derived.Test.YtecfcjdgmpopjaaGreatKu
set_option maxHeartbeats 16000000
set_option maxRecDepth 100000
set_option linter.unusedSimpArgs false
set_option linter.unusedVariables false
namespace Go.Proofs.YtecfcjdgmpopjaaGreat
open Go.RowKit Num
theorem below_has {x:Vr}(h:x.below=true):∃l,x.lo=some l:=by
 unfold Vr.below at h;split at h
 ·cases h
 ·rename_i l e;exact⟨l,e⟩
theorem feasT_step (n:Nat)(b:Tb){i:Nat}(h:beyondT b=some i):feasT (n+1) b=(match helpsT {b with left:=b.left-1} i (b.var (b.basic.getD i 0)).below with|none=>some ({b with left:=b.left-1},some i)|some k=>(subO (if (b.var (b.basic.getD i 0)).below then(b.var (b.basic.getD i 0)).lo.getD 0 else(b.var (b.basic.getD i 0)).hi.getD 0) (b.var (b.basic.getD i 0)).v).bind fun d=>(divO d ((b.t.getD i []).getD k 0)).bind fun by_=>(moveT {b with left:=b.left-1} k by_).bind fun b2=>(pivotT b2 i k).bind fun b3=>feasT n b3):=by
 rw[feasT,h];rfl
theorem feasT_none (n:Nat)(b:Tb)(h:beyondT b=none):feasT n b=some (b,none):=by
 unfold feasT;rw[h]
theorem feasT_zero (b:Tb){i:Nat}(h:beyondT b=some i):feasT 0 b=none:=by
 unfold feasT;rw[h]
theorem bind2 {α β γ:Type}{o:Option α}{f:α→Option β}{g:β→Option γ}{b:β}(h:o.bind f=some b):(o.bind fun a=>(f a).bind g)=g b:=by
 cases o with
 |none=>cases h
 |some a=>
  have h':f a=some b:=h;show(f a).bind g=g b;rw[h'];rfl
abbrev lineV (r:Option Nat):Value:= .int .i64 (lineI r)
theorem feas_any {w:World}{d:Ad}{b:Tb}(h:TAt tyT w d b)(hw:Wf b)(hh:HasHi b):Calls Tryz.prog 138 #[vptr d.t0] w fun e w'=>Stp d.S w w'∧((∃b' r,feasT b.left b=some (b',r)∧e= .returned (lineV r)∧TAt tyT w' d b'∧Wf b'∧HasHi b'∧(b'.n=b.n∧b'.vars.length=b.vars.length)∧∀i,r=some i→i<b'.t.length)∨(feasT b.left b=none∧ThrewX e)):=by
 have HT:=ZH h;have HW:=ZH hw;have HH:=ZH hh;have HLT:=ZH h.lt;obtain⟨R,hR⟩:∃R,feasT b.left b=R:=⟨_,rfl⟩;rw[hR];have HR:Hid (R=feasT b.left b):=hR.symm;clear hR h hw hh;go_enter Tryz.func138,Tryz.ntmps138;go_wp2_with fail;go_loopg [] b.left (fun z wr=>∃(b':Tb),z=b'.left∧Hid (R=feasT b'.left b')∧TAt tyT wr d b'∧Hid (Wf b')∧Hid (HasHi b')∧Stp d.S w wr∧(b'.n=b.n∧b'.vars.length=b.vars.length))
 case atStart=>exact⟨b,rfl,HR.out,HT.out,HW.out,HH.out,Stp.refl,rfl,rfl⟩
 case round=>
  clear HT HW HH HR;obtain⟨b1,hz,HL,ht,HW,HH,hs,hbn⟩:=hrel;have HT:=ZH ht;have HS:=ZH hs;have HN:=ZH hbn;have HBY:=ZH (beyond_any ht HW.out);clear ht hs hbn;go_wp2_with fail;refine HBY.out.mono ?_;rintro e w1 ⟨rfl,q1⟩;have HT1:=ZH (HT.out.below q1);have hs1:=ZH (HS.out.trans (Stp.of q1));clear HBY HT HS q1;obtain⟨B,hB⟩:∃B,beyondGo b1 0 none b1.basic=B:=⟨_,rfl⟩;rw[hB];have HB:Hid (beyondT b1=B.map (·.1)):=by
   show _=_;rw[←hB];rfl
  clear hB;cases B with
  |none=>
   have HC:Hid (R=some (b1,none)):=HL.out.trans (feasT_none _ _ HB.out);simp only[bestV];clear HL HB;go_wp2_with fail;exact bodyPost_ret (v:=lineV none) (by simp[results,Tryz.results138,go_sem]) rfl ⟨hs1.out,.inl ⟨b1,none,HC.out,rfl,HT1.out,HW.out,HH.out,HN.out,fun i e=>by cases e⟩⟩
  |some p=>
   obtain⟨i,u0⟩:=p;simp only[bestV];have HB2:Hid (beyondT b1=some i):=HB.out;clear HB;have hib:=(beyond_some HB2.out).1;have hit:i<b1.t.length:=by rw[←HW.out.bt];exact hib
   have d1:decide ((i:Int)<0)=false:=dF (by omega);cases hl:b1.left with
   |zero=>
    have HC:Hid (R=none):=HL.out.trans (by rw[hl];exact feasT_zero _ HB2.out);have HST:=ZH (step_bad HT1.out hl);clear hl hz;go_wp2_with fail;refine HST.out.mono ?_;rintro e w2 ⟨⟨v,rfl⟩,q2⟩;go_wp2_with fail;exact⟨rfl,hs1.out.trans (Stp.of q2),.inr ⟨HC.out,v,rfl⟩⟩
   |succ n=>
    have hn:n≤10000:=by have:=HW.out.sl;omega
    have HST:=ZH (step_ok HT1.out n hl hn);have HC0:=HL.out;rw[hl]at HC0;rw[feasT_step n b1 HB2.out,show b1.left-1=n by omega]at HC0;have HC:=ZH HC0;have hzn:n<gk:=by omega
    have HWn:=ZH (HW.out.setLeft hn);have HHn:Hid (HasHi {b1 with left:=n}):=HH.out;have hvlt:=HW.out.bv i hib;clear hl hz HL HC0 HB2;go_wp2_with fail;refine HST.out.mono ?_;rintro e w2 ⟨rfl,hs2,ht2⟩;have HT2:=ZH ht2;have hs2:=ZH (hs1.out.trans hs2);clear hs1 HT1 HST;obtain⟨h0,h1,h2,h3,h4,h5,h6⟩:=ht2.head.seven;obtain⟨gB,oB,hBA,cj⟩:=ht2.ba i hib;replace cj:w2.cell? ⟨gB,oB+i,none⟩=some (iv6 (b1.basic.getD i 0)):=cj;obtain⟨gV,oV,hVA,cv⟩:=ht2.vp _ hvlt;dsimp only at h1 h2 h4;rw[hBA]at h2;rw[hVA]at h1;obtain⟨u,hu⟩:∃u,b1.basic.getD i 0=u:=⟨_,rfl⟩;have CB:Lk w2 gB (oB+i) (iv6 u):=by rw[←hu];exact Lk.of cj
    have CV:Lk w2 gV (oV+u) (vptr (d.vs.getD u 0)):=by rw[←hu];exact Lk.of cv
    rw[hu]at hvlt HC;have hva:=ht2.vr _ hvlt;obtain⟨hv,hhv⟩:=HH.out u hvlt;have V1:=Lk.of h1;have V2:=Lk.of h2;have V4:=Lk.of h4;replace hva:VAt w2 (d.vs.getD u 0) (b1.var u):=hva;have HBl:Hid (∀w',Below w2.heap.size w2 w'→Calls Tryz.prog 179 #[vptr (d.vs.getD u 0)] w' fun e w''=>e= .returned (.bool (b1.var u).below)∧Below w'.heap.size w' w''):=fun w' q=>vbelow_any (x:=b1.var u) ((HT2.out.below q).vr _ hvlt);have HHP:Hid (∀(up:Bool)(w':World),Below w2.heap.size w2 w'→∃H,helpsT {b1 with left:=n} i up=H.map (·.1)∧Calls Tryz.prog 180 #[vptr d.t0,iv6 i,.bool up] w' fun e w''=>e= .returned (bestV H)∧Below w'.heap.size w' w''):=fun up w' q=>⟨_,rfl,helps_any (HT2.out.below q) HWn.out i hit up⟩;have HTR:Hid (∀k,k<b1.free.length→∃gT oT gL oL cT cL ll A c B e,w2.cell? ⟨d.t0,4,none⟩=some (.slice (some ⟨gT,oT,none⟩) b1.t.length cT)∧w2.cell? ⟨gT,oT+i,none⟩=some (.slice (some ⟨gL,oL,none⟩) ll cL)∧k<ll∧w2.cell? ⟨gL,oL+k*4,none⟩=some (.bool (sN ((b1.t.getD i []).getD k 0).num))∧w2.cell? ⟨gL,oL+k*4+1,none⟩=some (.slice A (sD ((b1.t.getD i []).getD k 0).num).length c)∧w2.cell? ⟨gL,oL+k*4+2,none⟩=some (.bool false)∧w2.cell? ⟨gL,oL+k*4+3,none⟩=some (.slice B (dig ((b1.t.getD i []).getD k 0).den).length e)∧QR w2 A c B e ((b1.t.getD i []).getD k 0)):=fun k hk=>by
     have hft:(b1.t.getD i []).length=b1.free.length:=HWn.out.ft i hit;obtain⟨gT,oT,hTA,ct⟩:=HT2.out.tp i hit;obtain⟨gL,oL,hL,A,c,B,e,a1,a2,a3,a4,hqa⟩:=HT2.out.tr i hit k (by show k<(b1.t.getD i []).length;omega);replace ct:w2.cell? ⟨gT,oT+i,none⟩=some (.slice (d.ls.getD i (none,0)).1 (b1.t.getD i []).length (d.ls.getD i (none,0)).2):=ct;rw[show(d.ls.getD i (none,0)).1=some ⟨gL,oL,none⟩ from hL]at ct;have h4:=HT2.out.head.seven.2.2.2.2.1;dsimp only at h4;rw[hTA]at h4;exact⟨gT,oT,gL,oL,_,_,_,A,c,B,e,h4,ct,by omega,a1,a2,a3,a4,hqa⟩
    clear h0 h1 h2 h3 h4 h5 h6 hBA hVA hu cj cv ht2 HW HH;obtain⟨g,hg⟩:∃g,d.vs.getD u 0=g:=⟨_,rfl⟩;rw[hg]at CV hva HBl;clear hg;generalize d.V.2=cV at*;generalize d.B.2=cB at*;generalize hx:b1.var u=x at*;clear hx;obtain⟨lo,hi,xv⟩:=x;dsimp only at hhv;subst hhv;obtain⟨hlo,hhi,hxv⟩:=hva;obtain⟨A3,c3,B3,d3,x1,x2,x3,x4,hxq⟩:=hxv;have X1:=Lk.of x1;have X2:=Lk.of x2;have X3:=Lk.of x3;have X4:=Lk.of x4;have HX:=ZH hxq;obtain⟨hhs,A5,c5,B5,d5,y1,y2,y3,y4,hy⟩:=hhi;have Y1:=Lk.of y1;have Y2:=Lk.of y2;have Y3:=Lk.of y3;have Y4:=Lk.of y4;have HY:=ZH hy;have HLO:=ZH hlo;dsimp only at HC;clear x1 x2 x3 x4 hxq hhs y1 y2 y3 y4 hy hlo;have M:=Mem.start w2;go_upto_region 5 with fail;refine region_st (n:=14) (frame:= ?frame1) (fun jK=>[kP d.t0 0,kP d.t0 0,kP d.t0 1,kF (.slice (some ⟨gV,oV,none⟩) b1.vars.length cV),kP d.t0 0,kP d.t0 0,kP d.t0 2,kF (.slice (some ⟨gB,oB,none⟩) b1.basic.length cB),kI ((i:Nat)),kP gB (oB+i),kI ((u:Nat)),kP gV (oV+u),kP g 0,kP g 0].getD jK .none) [] (by kernel_rfl) (by kernel_rfl) (by kernel_rfl) rfl M (fun _ h=>by cases h) (fun _ h=>by cases h) ?_ ?_ ?_
    case refine_1=>
     intro s;simp only[fr,Act.put,zA,zB,zC,zD,zE,zF,Nat.reduceAdd];rfl
    case refine_2=>
     iterate 14 (refine SN ?_ ?_;rotate_left)
     exact Steps.nil;all_goals (intro L s w9 hN hU hi hS K hK;dsimp only at hK⊢;simp only[Act.put,zD,zE,zF]at hK)
     ·go_simp;exact hS.o hK
     ·simp only[hS.f hN 0]at hK⊢;go_simp;exact hS.o hK
     ·simp only[hS.f hN 1]at hK⊢;go_simp;exact hS.o hK
     ·simp only[hS.f hN 2]at hK⊢;have u0:=V1 _ hS.mem.bel;go_simp;exact hS.o hK
     ·go_simp;exact hS.o hK
     ·simp only[hS.f hN 4]at hK⊢;go_simp;exact hS.o hK
     ·simp only[hS.f hN 5]at hK⊢;go_simp;exact hS.o hK
     ·simp only[hS.f hN 6]at hK⊢;have u0:=V2 _ hS.mem.bel;go_simp;exact hS.o hK
     ·go_simp;exact hS.o hK
     ·simp only[hS.f hN 7,hS.f hN 8]at hK⊢;go_simp;exact hS.o hK
     ·simp only[hS.f hN 9]at hK⊢;have u0:=CB _ hS.mem.bel;go_simp;exact hS.o hK
     ·simp only[hS.f hN 3,hS.f hN 10]at hK⊢;go_simp;exact hS.o hK
     ·simp only[hS.f hN 11]at hK⊢;have u0:=CV _ hS.mem.bel;go_simp;exact hS.o hK
     ·simp only[hS.f hN 12]at hK⊢;go_simp;exact hS.o hK
    intro L s w9 hall hS;have e9:=hS.fx 13 rfl rfl (hall 13 (by decide));have q3:=hS.mem.bel;simp only[e9];clear hS hall e9 M V1 V2 CB CV;obtain⟨up,hup⟩:∃up,Vr.below ⟨lo,some hv,xv⟩=up:=⟨_,rfl⟩;rw[hup]at HBl HC;have HUP:=ZH hup;clear hup;go_wp2_with fail;refine(HBl.out _ q3).mono ?_;rintro e w4 ⟨rfl,q4⟩;replace q4:=bT q3 q4;obtain⟨H,hH,hcall⟩:=HHP.out up _ q4;have HH1:=ZH hH;have HCL:=ZH hcall;clear hH hcall HHP HBl q3;go_wp2_with fail;refine HCL.out.mono ?_;rintro e w5 ⟨rfl,q5⟩;replace q5:=bT q4 q5;clear q4 HCL;cases H with
    |none=>
     have HC2:Hid (R=some ({b1 with left:=n},some i)):=HC.out.trans (by rw[HH1.out];rfl);simp only[bestV];have hq5:=ZH q5;clear HC HH1 q5;go_wp2_with fail;exact bodyPost_ret (v:=lineV (some i)) (by simp[results,Tryz.results138,go_sem]) rfl ⟨hs2.out.trans (Stp.of hq5.out),.inl ⟨_,some i,HC2.out,rfl,HT2.out.below hq5.out,HWn.out,HHn.out,HN.out,fun j e=>by injection e with e;subst e;exact hit⟩⟩
    |some p=>
     obtain⟨k,u2⟩:=p;have hk:k<b1.free.length:=(helps_some (b:={b1 with left:=n}) (i:=i) (up:=up) (HWn.out.ft i hit) HH1.out).1;obtain⟨a,ha⟩:∃a,(b1.t.getD i []).getD k 0=a:=⟨_,rfl⟩;obtain⟨G,hG⟩:∃G,(if up then lo.getD 0 else hv)=G:=⟨_,rfl⟩;have HC2:Hid (R=(subO G xv).bind fun d=>(divO d a).bind fun by_=>(moveT {b1 with left:=n} k by_).bind fun b2=>(pivotT b2 i k).bind fun b3=>feasT n b3):=HC.out.trans (by rw[HH1.out,←ha,←hG];rfl);obtain⟨gT,oT,gL,oL,cT,cL,ll,A,c,B,e,h4,ct,hkl,a1,a2,a3,a4,hqa⟩:=HTR.out k hk;rw[ha]at a1 a2 a4 hqa;have V4:=Lk.of h4;have CT:=Lk.of ct;have L1:=Lk.of a1;have L2:=Lk.of a2;have L3:=Lk.of a3;have L4:=Lk.of a4;have HA:=ZH hqa;simp only[bestV];have d3':decide ((k:Int)<0)=false:=dF (by omega);have v1:=Y1 _ q5;have v2:=Y2 _ q5;have v3:=Y3 _ q5;have v4:=Y4 _ q5;clear HC HH1 ha h4 ct a1 a2 a3 a4 hqa HTR;have M:=(Mem.start w5).new 72 z4;go_upto_if 41 with ((with_reducible refine st_ ?_);refine wP2 _ _ (M.k (i:=0) rfl) rfl rfl rfl rfl info_rat rfl rfl ?_;intro w6 b6 g6;replace M:=M.row (by omega) (by simp) rfl b6 g6;clear b6 g6);go_cut [] (fun wx=>∃A1 c1 B1 d1,Mem w5 wx [(w5.heap.size,72,qcs G A1 c1 B1 d1)] []∧QR wx A1 c1 B1 d1 G)
     case first=>
      cases up with
      |false=>
       obtain rfl:hv=G:=hG;go_wp2_with fail;go_meet;exact⟨A5,c5,B5,d5,M,HY.out.below (bT q5 M.bel)⟩
      |true=>
       obtain⟨l,hl⟩:=below_has HUP.out;dsimp only at hl;subst hl;obtain rfl:l=G:=hG;obtain⟨_,A6,c6,B6,d6,z1,z2,z3,z4,hz⟩:=HLO.out;have z1:=Lk.of z1 _ (bT q5 M.bel);have z2:=Lk.of z2 _ (bT q5 M.bel);have z3:=Lk.of z3 _ (bT q5 M.bel);have z4:=Lk.of z4 _ (bT q5 M.bel);have HZ:=ZH hz;clear hz;go_wp2_with ((with_reducible refine st_ ?_);refine wP2 _ _ (M.k (i:=0) rfl) rfl rfl rfl rfl info_rat rfl rfl ?_;intro w7 b7 g7;have HQ7:=ZH ((HZ.out.below (bT q5 M.bel)).boxed ((M.k (i:=0) rfl).box rfl) g7);replace M:=M.row (by omega) (by simp) rfl b7 g7;clear b7 g7);go_meet;exact⟨A6,c6,B6,d6,M,HQ7.out⟩
     case rest=>
      obtain⟨A1,c1,B1,d1',M,hq1⟩:=hcut;have HG1:=ZH hq1;have q6:=bT q5 M.bel;have HT6:=ZH (HT2.out.below q6);have hs6:=ZH (hs2.out.trans (Stp.of q6));clear hq1 hG v1 v2 v3 v4 HLO HUP;go_upto_region 13 with fail;refine region_tail (n:=19) (frame:= ?frame2) (fun jK=>[kP d.t0 0,kI ((k:Nat)),kF (.agg #[.bool (sN G.num),.slice A1 (sD G.num).length c1,.bool false,.slice B1 (dig G.den).length d1']),kP g 0,kP g 0,kP g 10,kF (qv xv A3 c3 B3 d3),.val (Sh.rq (subO G xv)),kP d.t0 0,kP d.t0 0,kP d.t0 4,kF (.slice (some ⟨gT,oT,none⟩) b1.t.length cT),kI ((i:Nat)),kP gT (oT+i),kF (.slice (some ⟨gL,oL,none⟩) ll cL),kI ((k:Nat)),kP gL (oL+k*4),kF (qv a A c B e),.val (Sh.rq ((subO G xv).bind fun d=>divO d a))].getD jK .none) (fun s' w'=>∃vs q9,((subO G xv).bind fun d=>divO d a)=some q9∧vs.length=b1.vars.length∧moveT {b1 with left:=n} k q9=some (({b1 with left:=n}:Tb).ups vs)∧TAt tyT w' d (({b1 with left:=n}:Tb).ups vs)∧Stp d.S w w') _ (by kernel_rfl) (by kernel_rfl) (by kernel_rfl) rfl rfl (by kernel_rfl) M.rebase ?_ ?_ ?_ ?_
      case refine_1=>
       intro s;simp only[fr,Act.put,zA,zB,zC,zD,zE,zF,Nat.reduceAdd];rfl
      case refine_2=>
       iterate 19 (refine SN ?_ ?_;rotate_left)
       exact Steps.nil;all_goals (intro L s w9 hN hU hi hS K hK;dsimp only at hK⊢;simp only[Act.put,zD,zE,zF]at hK)
       iterate 2 (go_simp;exact hS.o hK)
       ·obtain⟨u1,u2,u3,u4⟩:=(hS.mem.k (i:=0) rfl).four;go_simp;exact hS.o hK
       ·go_simp;exact hS.o hK
       ·simp only[hS.f hN 3]at hK⊢;go_simp;exact hS.o hK
       ·simp only[hS.f hN 4]at hK⊢;go_simp;exact hS.o hK
       ·simp only[hS.f hN 5]at hK⊢;have u1:=X1 _ (bT q6 hS.mem.bel);have u2:=X2 _ (bT q6 hS.mem.bel);have u3:=X3 _ (bT q6 hS.mem.bel);have u4:=X4 _ (bT q6 hS.mem.bel);go_simp;exact hS.o hK
       ·simp only[hS.f hN 2,hS.f hN 6]at hK⊢;go_simp;go_at_call 120;refine(psub_any (HG1.out.below hS.mem.bel) (HX.out.below (bT q6 hS.mem.bel))).mono ?_;rintro e9 w10 ⟨q,⟨q9,A9,c9,B9,d9,ho9,rfl,hq9⟩|⟨ho9,v9,rfl⟩⟩
        ·exact hK.out _ _ (hS.val rfl (nSo rfl) q ⟨q9,A9,c9,B9,d9,ho9,rfl,hq9⟩)
        ·exact⟨rfl,(hs6.out.trans (Stp.of hS.mem.bel)).trans (Stp.of q),.inr ⟨HC2.out.trans (bind_n ho9),v9,rfl⟩⟩
       ·go_simp;exact hS.o hK
       ·simp only[hS.f hN 8]at hK⊢;go_simp;exact hS.o hK
       ·simp only[hS.f hN 9]at hK⊢;go_simp;exact hS.o hK
       ·simp only[hS.f hN 10]at hK⊢;have u0:=V4 _ (bT q6 hS.mem.bel);go_simp;exact hS.o hK
       ·go_simp;exact hS.o hK
       ·simp only[hS.f hN 11,hS.f hN 12]at hK⊢;go_simp;exact hS.o hK
       ·simp only[hS.f hN 13]at hK⊢;have u0:=CT _ (bT q6 hS.mem.bel);go_simp;exact hS.o hK
       ·go_simp;exact hS.o hK
       ·simp only[hS.f hN 14,hS.f hN 15]at hK⊢;go_simp;exact hS.o hK
       ·simp only[hS.f hN 16]at hK⊢;have u1:=L1 _ (bT q6 hS.mem.bel);have u2:=L2 _ (bT q6 hS.mem.bel);have u3:=L3 _ (bT q6 hS.mem.bel);have u4:=L4 _ (bT q6 hS.mem.bel);go_simp;exact hS.o hK
       ·obtain⟨q7,A7,c7,B7,d7,o7,e7,h7⟩:=hS.val_at 7 rfl (by decide) (hN.out 7 rfl);simp only[e7,hS.f hN 17]at hK⊢;go_simp;go_at_call 182;refine(pdiv_any h7 (HA.out.below (bT q6 hS.mem.bel))).mono ?_;rintro e9 w10 ⟨q,⟨q9,A9,c9,B9,d9,ho9,rfl,hq9⟩|⟨ho9,v9,rfl⟩⟩
        ·exact hK.out _ _ (hS.val rfl (nSo rfl) q ⟨q9,A9,c9,B9,d9,bind_s o7 ho9,rfl,hq9⟩)
        ·exact⟨rfl,(hs6.out.trans (Stp.of hS.mem.bel)).trans (Stp.of q),.inr ⟨HC2.out.trans (bind_sn o7 (bind_n ho9)),v9,rfl⟩⟩
      case refine_3=>
       intro L s w9 hall hS K hK;dsimp only at hK⊢;simp only[Act.put,zD,zE,zF]at hK;simp only[hS.fx 0 rfl rfl (hall 0 (by decide))]at hK⊢;simp only[hS.fx 1 rfl rfl (hall 1 (by decide))]at hK⊢;obtain⟨q18,A18,c18,B18,d18,o18,e18,h18⟩:=hS.val_at 18 rfl (by decide) (hall 18 (by decide));simp only[e18]at hK⊢;refine ite_of rfl ?_;go_simp;go_at_call 181;refine(move_any (HT6.out.below hS.mem.bel) HWn.out hk h18).mono ?_;rintro e9 w10 ⟨hs9,⟨vs,hvl,hmv,rfl,ht9⟩|⟨hmv,v9,rfl⟩⟩
       ·exact hK.out _ _ ⟨vs,q18,o18,hvl,hmv,ht9,(hs6.out.trans (Stp.of hS.mem.bel)).trans hs9⟩
       ·exact⟨rfl,(hs6.out.trans (Stp.of hS.mem.bel)).trans hs9,.inr ⟨HC2.out.trans ((bind2 o18).trans (by rw[hmv];rfl)),v9,rfl⟩⟩
      intro s w9 hR;obtain⟨vs,q9,ho9,hvl,hmv,ht9,hs9⟩:=hR;have HC3:Hid (R=(pivotT (({b1 with left:=n}:Tb).ups vs) i k).bind fun b3=>feasT n b3):=HC2.out.trans ((bind2 ho9).trans (by rw[hmv];rfl));have HW9:=ZH (HWn.out.setVars (vs:=vs) hvl);have HH9:=ZH (HHn.out.same (move_ends hmv) hvl);have HVL:=ZH hvl;have HPV:=ZH (pivot_any ht9 HW9.out hit hk);have HS9:=ZH hs9;clear ht9 hmv hvl ho9 hs9 HC2 M;go_wp2_with fail;refine HPV.out.mono ?_;rintro e w10 ⟨hs7,⟨b3,hp,rfl,ht7⟩|⟨hp,v',rfl⟩⟩
      ·have P:=ZH (pivot_form (HW9.out.line_ne hit hk) hp);have HC4:Hid (R=feasT b3.left b3):=HC3.out.trans (by rw[hp,P.out.left];rfl);have hs8:=HS9.out.trans hs7;have HWP:=ZH (P.out.wf HW9.out hit hk);have hln:b3.left=n:=P.out.left;have HHP2:=ZH (HH9.out.same P.out.ends (by rw[P.out.vars]));have hnn:b3.n=b.n∧b3.vars.length=b.vars.length:=⟨P.out.n.trans HN.out.1,by rw[P.out.vars];exact HVL.out.trans HN.out.2⟩;clear hp HPV HC3 hs7;go_wp2_with fail;go_roundg n
       case measure=>omega
       case rel=>exact⟨b3,hln.symm,HC4.out,ht7,HWP.out,HHP2.out,hs8,hnn⟩
      ·go_wp2_with fail;exact⟨rfl,HS9.out.trans hs7,.inr ⟨HC3.out.trans (by rw[hp];rfl),v',rfl⟩⟩
theorem near_line {c:Option Bk}{q:Rat}{l:Option Nat}{v:Nat}{s:Bk}(h:nearS c q l v=some s):s.line=l∨c=some s:=by
 unfold nearS at h;split at h
 ·injection h with h;exact .inl (by rw[←h])
 ·split at h
  ·exact .inr h
  ·injection h with h;exact .inl (by rw[←h])
theorem stopS_line {a:Rat}{y:Vr}{c c':Option Bk}{i v:Nat}(h:stopS a y c i v=some c'):c'=c∨∀s,c'=some s→s.line=some i∨c=some s:=by
 unfold stopS at h;split at h
 ·split at h
  ·injection h with h;exact .inl h.symm
  ·obtain⟨d,_,h⟩:=Option.bind_eq_some_iff.1 h;obtain⟨q,_,rfl⟩:=Option.map_eq_some_iff.1 h;exact .inr fun s hs=>near_line hs
 ·split at h
  ·split at h
   ·injection h with h;exact .inl h.symm
   ·obtain⟨d,_,h⟩:=Option.bind_eq_some_iff.1 h;obtain⟨q,_,rfl⟩:=Option.map_eq_some_iff.1 h;exact .inr fun s hs=>near_line hs
  ·injection h with h;exact .inl h.symm
theorem stopL_line (b:Tb)(k:Nat)(up:Bool):∀(ls:List (List Rat))(vs:List Nat)(i:Nat)(c:Option Bk){c':Option Bk},stopL b k up i c ls vs=some c'→(∀s j,c=some s→s.line=some j→j<i)→∀s j,c'=some s→s.line=some j→j<i+ls.length
 |[],vs,i,c,c',h,hc=>by
  unfold stopL at h;injection h with h;subst h;exact hc
 |l::ls,[],i,c,c',h,hc=>by
  unfold stopL at h;injection h with h;subst h;exact fun s j e1 e2=>by have:=hc s j e1 e2;omega
 |l::ls,v::vs,i,c,c',h,hc=>by
  rw[stopL_step]at h;obtain⟨c1,h1,h2⟩:=Option.bind_eq_some_iff.1 h;intro s j e1 e2;have:=stopL_line b k up ls vs (i+1) c1 h2 (fun s j e3 e4=>by
   rcases stopS_line h1 with h5|h5
   ·have:=hc s j (by rw[←h5];exact e3) e4;omega
   ·rcases h5 s e3 with h6|h6
    ·rw[h6]at e4;injection e4 with e4;omega
    ·have:=hc s j h6 e4;omega) s j e1 e2
  rw[List.length_cons];omega
theorem stops_line {b:Tb}{k:Nat}{up:Bool}{s:Bk}{j:Nat}(h:stopsT b k up=some (some s))(hj:s.line=some j):j<b.t.length:=by
 unfold stopsT at h;obtain⟨c,h1,h2⟩:=Option.bind_eq_some_iff.1 h;have hc:∀s j,c=some s→s.line=some j→j<0:=by
  intro s j e1 e2;subst e1;have key:∀q:Rat,nearS none q none (b.free.getD k 0)=some s→False:=fun q e=>by
   rcases near_line e with e|e
   ·rw[e]at e2;cases e2
   ·cases e
  split at h1
  ·split at h1
   ·cases h1
   ·obtain⟨q,_,e⟩:=Option.map_eq_some_iff.1 h1;exact absurd e (fun e=>key q e)
  ·split at h1
   ·cases h1
   ·obtain⟨q,_,e⟩:=Option.map_eq_some_iff.1 h1;exact absurd e (fun e=>key q e)
 have:=stopL_line b k up b.t b.basic 0 c h2 hc s j rfl hj;omega
theorem optT_none (n:Nat)(b:Tb)(h:cheapT b=none):optT n b=some b:=by
 unfold optT;rw[h]
theorem optT_zero (b:Tb){p:Nat×Bool}(h:cheapT b=some p):optT 0 b=none:=by
 unfold optT;rw[h]
def optP (b2:Tb)(k:Nat):Option Nat→Option Tb
 |none=>some b2
 |some i=>pivotT b2 i k
def optC (b1:Tb)(k:Nat)(up:Bool)(n:Nat):Option Bk→Option Tb
 |none=>none
 |some s=>(moveT b1 k (if up then s.far else-s.far)).bind fun b2=>(optP b2 k s.line).bind fun b3=>optT n b3
theorem optT_step (n:Nat)(b:Tb){k:Nat}{up:Bool}(h:cheapT b=some (k,up)):optT (n+1) b=(stopsT {b with left:=b.left-1} k up).bind (optC {b with left:=b.left-1} k up n):=by
 rw[optT,h];show Option.bind (stopsT {b with left:=b.left-1} k up) _=_;congr 1
theorem opt_any {w:World}{d:Ad}{b:Tb}(h:TAt tyT w d b)(hw:Wf b):Calls Tryz.prog 140 #[vptr d.t0] w fun e w'=>Stp d.S w w'∧((∃b',optT b.left b=some b'∧e= .returned (.tuple #[])∧TAt tyT w' d b'∧Wf b'∧b'.n=b.n∧b'.vars.length=b.vars.length)∨(optT b.left b=none∧ThrewX e)):=by
 have HT:=ZH h;have HW:=ZH hw;obtain⟨R,hR⟩:∃R,optT b.left b=R:=⟨_,rfl⟩;rw[hR];have HR:Hid (R=optT b.left b):=hR.symm;clear hR h hw;go_enter Tryz.func140,Tryz.ntmps140;go_wp2_with fail;go_loopg [] b.left (fun z wr=>∃(b':Tb),z=b'.left∧Hid (R=optT b'.left b')∧TAt tyT wr d b'∧Hid (Wf b')∧Stp d.S w wr∧Hid (b'.n=b.n∧b'.vars.length=b.vars.length))
 case atStart=>exact⟨b,rfl,HR.out,HT.out,HW.out,Stp.refl,rfl,rfl⟩
 case round=>
  clear HT HW HR;obtain⟨b1,hz,HL,ht,HW,hs,HN⟩:=hrel;have HT:=ZH ht;have HS:=ZH hs;have HCH:=ZH (cheap_any ht HW.out);clear ht hs;go_wp2_with fail;refine HCH.out.mono ?_;rintro e w1 ⟨rfl,q1⟩;have HT1:=ZH (HT.out.below q1);have hs1:=ZH (HS.out.trans (Stp.of q1));clear HCH HT HS q1;obtain⟨B,hB⟩:∃B,cheapGo b1 0 none b1.cost b1.free=B:=⟨_,rfl⟩;rw[hB];have HB:Hid (cheapT b1=B.map fun r=>(r.1,r.2.2)):=by
   show _=_;rw[←hB];rfl
  clear hB;cases B with
  |none=>
   have HC:Hid (R=some b1):=HL.out.trans (optT_none _ _ HB.out);simp only[best3,up3];clear HL HB;go_wp2_with fail;exact⟨rfl,_,by simp[results,Tryz.results140,go_sem],hs1.out,.inl ⟨b1,HC.out,rfl,HT1.out,HW.out,HN.out.1,HN.out.2⟩⟩
  |some p=>
   obtain⟨k,u0,up⟩:=p;simp only[best3,up3];have HB2:Hid (cheapT b1=some (k,up)):=HB.out;clear HB;have hk:=(cheap_some HW.out.fc HB2.out).1;have d1:decide ((k:Int)<0)=false:=dF (by omega);cases hl:b1.left with
   |zero=>
    have HC:Hid (R=none):=HL.out.trans (by rw[hl];exact optT_zero _ HB2.out);have HST:=ZH (step_bad HT1.out hl);clear hl hz;go_wp2_with fail;refine HST.out.mono ?_;rintro e w2 ⟨⟨v,rfl⟩,q2⟩;go_wp2_with fail;exact⟨rfl,hs1.out.trans (Stp.of q2),.inr ⟨HC.out,v,rfl⟩⟩
   |succ n=>
    have hn:n≤10000:=by have:=HW.out.sl;omega
    have HST:=ZH (step_ok HT1.out n hl hn);have HC0:=HL.out;rw[hl]at HC0;rw[optT_step n b1 HB2.out,show b1.left-1=n by omega]at HC0;have HC:=ZH HC0;have hzn:n<gk:=by omega
    have HWn:=ZH (HW.out.setLeft hn);clear hl hz HL HC0 HB2;go_wp2_with fail;refine HST.out.mono ?_;rintro e w2 ⟨rfl,hs2,ht2⟩;have HT2:=ZH ht2;have hs2:=ZH (hs1.out.trans hs2);have HSP:=ZH (stops_any (up:=up) ht2 HWn.out hk);clear hs1 HT1 HST ht2;go_wp2_with fail;refine HSP.out.mono ?_;rintro e w3 ⟨q3,⟨c,v,hc,rfl,hv⟩|⟨hc,v,rfl⟩⟩
    ·have HC2:Hid (R=optC {b1 with left:=n} k up n c):=HC.out.trans (by rw[hc];rfl);have HSC:=ZH hc;have HT3:=ZH (HT2.out.below q3);have hs3:=ZH (hs2.out.trans (Stp.of q3));clear HC hc HT2 hs2 q3 HSP;cases c with
     |none=>
      obtain rfl:=hv;have M:=(Mem.start w3).new 226 bk0;go_wp2_with ((with_reducible refine st_ ?_);refine wP2 _ _ (M.k (i:=0) rfl) rfl rfl rfl rfl info_block rfl rfl ?_;intro w4 b4 g4;replace M:=M.row (by omega) (by simp) rfl b4 g4;obtain⟨f0,f1,f2,f3,f4,f5,f6⟩:=Blk.seven b4;clear b4 g4);exact⟨rfl,hs3.out.trans (Stp.of M.bel),.inr ⟨HC2.out,(_,_),rfl⟩⟩
     |some s=>
      obtain⟨A1,c1,B1,d1',rfl,hq1⟩:=hv;have HQ1:=ZH hq1;have HSL:=ZH (fun j (hj:s.line=some j)=>(show j<b1.t.length from stops_line (b:={b1 with left:=n}) HSC.out hj));clear hq1 HSC;have hns:¬d.S w3.heap.size:=fun h=>by have:=HT3.out.lt _ h;omega
      obtain⟨far,line,sv⟩:=s;dsimp only at HQ1 HSL⊢;replace HC2:Hid (R=(moveT {b1 with left:=n} k (if up then far else-far)).bind fun b2=>(optP b2 k line).bind fun b3=>optT n b3):=HC2;have M:=(Mem.start w3).new 226 bk0;go_upto_region 6 with ((with_reducible refine st_ ?_);refine wP2 _ _ (M.k (i:=0) rfl) rfl rfl rfl rfl info_block rfl rfl ?_;intro w4 b4 g4;replace M:=M.row (by omega) (by simp) rfl b4 g4;obtain⟨f0,f1,f2,f3,f4,f5,f6⟩:=Blk.seven b4;clear b4 g4);have HQ4:=ZH (HQ1.out.below M.bel);have F5:=Lk.of f5;have HT4:=ZH (HT3.out.below M.bel);have hs4:=ZH (hs3.out.trans (Stp.of M.bel));have hM4:=ZH M;obtain⟨G,hG⟩:∃G,(if up then far else-far)=G:=⟨_,rfl⟩;rw[hG]at HC2;clear HQ1 HT3 hs3 f0 f5 f6;have M5:=(Mem.start w4).new 72 z4;go_upto_if 27 with ((with_reducible refine st_ ?_);refine wP2 _ _ (M5.k (i:=0) rfl) rfl rfl rfl rfl info_rat rfl rfl ?_;intro w5 b5 g5;replace M5:=M5.row (by omega) (by simp) rfl b5 g5;clear b5 g5);go_cut [] (fun wx=>∃A1 c1 B1 d1,Mem w4 wx [(w4.heap.size,72,qcs G A1 c1 B1 d1)] []∧QR wx A1 c1 B1 d1 G)
      case first=>
       cases up with
       |true=>
        obtain rfl:far=G:=hG;go_wp2_with fail;go_meet;exact⟨A1,c1,B1,d1',M5,HQ4.out.below M5.bel⟩
       |false=>
        obtain rfl: -far=G:=hG;obtain⟨z1,z2,z3,z4⟩:=(M5.k (i:=0) rfl).four;go_wp2_with fail;refine(pneg_any (HQ4.out.below M5.bel)).mono ?_;rintro e w6 ⟨q6,A2,c2,B2,d2,rfl,hq2⟩;replace M5:=M5.below q6;have HQ2:=ZH hq2;clear hq2 z1 z2 z3 z4;go_wp2_with ((with_reducible refine st_ ?_);refine wP2 _ _ (M5.k (i:=0) rfl) rfl rfl rfl rfl info_rat rfl rfl ?_;intro w7 b7 g7;have HQ7:=ZH (HQ2.out.boxed ((M5.k (i:=0) rfl).box rfl) g7);replace M5:=M5.row (by omega) (by simp) rfl b7 g7;clear b7 g7);go_meet;exact⟨A2,c2,B2,d2,M5,HQ7.out⟩
      case rest=>
       obtain⟨A2,c2,B2,d2,M6,hq2⟩:=hcut;have HT6:=ZH (HT4.out.below M6.bel);have hs6:=ZH (hs4.out.trans (Stp.of M6.bel));have HMV:=ZH (move_any HT6.out HWn.out hk hq2);have f5:=F5 _ M6.bel;obtain⟨z1,z2,z3,z4⟩:=(M6.k (i:=0) rfl).four;clear hG hq2 M5 HQ4;go_wp2_with fail;refine HMV.out.mono ?_;rintro e w8 ⟨hs8,⟨vs,hvl,hmv,rfl,ht8⟩|⟨hmv,v',rfl⟩⟩
       ·have HC3:Hid (R=(optP (({b1 with left:=n}:Tb).ups vs) k line).bind fun b3=>optT n b3):=HC2.out.trans (by rw[hmv];rfl);have f5':=hs8.cell f5 hns;have HW8:=ZH (HWn.out.setVars (vs:=vs) hvl);have HS8:=ZH (hs6.out.trans hs8);have HT8:=ZH ht8;have HN8:Hid ((({b1 with left:=n}:Tb).ups vs).n=b.n∧(({b1 with left:=n}:Tb).ups vs).vars.length=b.vars.length):=⟨HN.out.1,hvl.trans HN.out.2⟩;clear hmv hvl HC2 HMV f5 hs8 ht8;cases line with
        |none=>
         have HC4:Hid (R=optT n (({b1 with left:=n}:Tb).ups vs)):=HC3.out;go_wp2_with fail;go_roundg n
         case measure=>omega
         case rel=>exact⟨(({b1 with left:=n}:Tb).ups vs),rfl,HC4.out,HT8.out,HW8.out,HS8.out,HN8.out⟩
        |some i=>
         have hit:=HSL.out i rfl;have d2:decide ((0:Int)≤((i:Nat):Int))=true:=dT (by omega);have HPV:=ZH (pivot_any HT8.out HW8.out hit hk);replace f5':w8.cell? ⟨w3.heap.size,5,none⟩=some (.int .i64 (i:Nat)):=f5';go_wp2_with fail;refine HPV.out.mono ?_;rintro e w10 ⟨hs7,⟨b3,hp,rfl,ht7⟩|⟨hp,v',rfl⟩⟩
         ·have P:=ZH (pivot_form (HW8.out.line_ne hit hk) hp);have HC4:Hid (R=optT b3.left b3):=HC3.out.trans (by
           show Option.bind (pivotT _ i k) _=_;rw[hp,P.out.left];rfl)
          have hs9:=HS8.out.trans hs7;have HWP:=ZH (P.out.wf HW8.out hit hk);have hln:b3.left=n:=P.out.left;have hnn:b3.n=b.n∧b3.vars.length=b.vars.length:=⟨P.out.n.trans HN8.out.1,by rw[P.out.vars];exact HN8.out.2⟩;clear hp HPV HC3 hs7;go_wp2_with fail;go_roundg n
          case measure=>omega
          case rel=>exact⟨b3,hln.symm,HC4.out,ht7,HWP.out,hs9,hnn⟩
         ·go_wp2_with fail;exact⟨rfl,HS8.out.trans hs7,.inr ⟨HC3.out.trans (by show Option.bind (pivotT _ i k) _=_;rw[hp];rfl),v',rfl⟩⟩
       ·go_wp2_with fail;exact⟨rfl,hs6.out.trans hs8,.inr ⟨HC2.out.trans (by rw[hmv];rfl),v',rfl⟩⟩
    ·have HC2:Hid (R=none):=HC.out.trans (by rw[hc];rfl);go_wp2_with fail;exact⟨rfl,hs2.out.trans (Stp.of q3),.inr ⟨HC2.out,v,rfl⟩⟩
def IRow (w:World)(A:Option Addr)(l:List Int):Prop:=CRow w A l.length fun j=> .int .i64 (l.getD j 0)
theorem IRow.stp {S:Nat→Prop}{w w':World}{A:Option Addr}{l:List Int}(h:IRow w A l)(k:Stp S w w')(hn:∀g,bl A=some g→¬S g):IRow w' A l:=CRow.stp h k hn
theorem IRow.below {w w':World}{A:Option Addr}{l:List Int}(h:IRow w A l)(q:Below w.heap.size w w'):IRow w' A l:=h.stp (S:=fun _=>False) (Stp.of q) fun _ _ e=>e
theorem CRow.below {w w':World}{A:Option Addr}{n:Nat}{f:Nat→Value}(h:CRow w A n f)(q:Below w.heap.size w w'):CRow w' A n f:=h.stp (S:=fun _=>False) (Stp.of q) fun _ _ e=>e
structure Pa where
 lo:Option Addr×Nat
 hi:Option Addr×Nat
 a:Option Addr×Nat
 b:Option Addr×Nat
 c:Option Addr×Nat
 rs:List (Option Addr×Nat)
abbrev pgC (m:Pa)(p:Pg):Array Value:= #[.slice m.lo.1 p.lo.length m.lo.2,.slice m.hi.1 p.hi.length m.hi.2,.slice m.a.1 p.a.length m.a.2,.slice m.b.1 p.b.length m.b.2,.slice m.c.1 p.c.length m.c.2]
structure PgAt (w:World) (m:Pa) (p:Pg):Prop where
 lo:IRow w m.lo.1 p.lo
 hi:IRow w m.hi.1 p.hi
 b:IRow w m.b.1 p.b
 c:IRow w m.c.1 p.c
 ap:CRow w m.a.1 p.a.length fun i=> .slice (m.rs.getD i (none,0)).1 (p.a.getD i []).length (m.rs.getD i (none,0)).2
 ar:∀i,i<p.a.length→IRow w (m.rs.getD i (none,0)).1 (p.a.getD i [])
theorem PgAt.below {w w':World}{m:Pa}{p:Pg}(h:PgAt w m p)(q:Below w.heap.size w w'):PgAt w' m p:=⟨h.lo.below q,h.hi.below q,h.b.below q,h.c.below q,h.ap.below q,fun i hi=>(h.ar i hi).below q⟩
theorem Blk.fiveP {w:World}{g:Nat}{t:TypeId}{a b c d e:Value}(h:Blk w g t #[a,b,c,d,e]):w.cell? ⟨g,0,none⟩=some a∧w.cell? ⟨g,1,none⟩=some b∧w.cell? ⟨g,2,none⟩=some c∧w.cell? ⟨g,3,none⟩=some d∧w.cell? ⟨g,4,none⟩=some e:=
 ⟨(h.cell 0).trans rfl,(h.cell 1).trans rfl,(h.cell 2).trans rfl,(h.cell 3).trans rfl,(h.cell 4).trans rfl⟩
abbrev tyP:TypeId:=31
theorem ans1_any {w:World}{g:Nat}{m:Pa}{p:Pg}{j:Nat}(hb:Blk w g tyP (pgC m p))(hc:IRow w m.c.1 p.c)(hj:j<p.c.length):Calls Tryz.prog 142 #[iv6 j,vptr g] w fun e w2=>e= .returned (.int .i64 (p.c.getD j 0))∧Below w.heap.size w w2:=by
 obtain⟨h0,h1,h2,h3,h4⟩:=hb.fiveP;obtain⟨gc,oc,hA,cj⟩:=hc j hj;replace cj:w.cell? ⟨gc,oc+j,none⟩=some (.int .i64 (p.c.getD j 0)):=cj;rw[hA]at h4;generalize p.c.getD j 0=z at*;generalize p.c.length=l at*;generalize m.c.2=cc at*;clear hb hc hA h0 h1 h2 h3;go_enter Tryz.func142,Tryz.ntmps142;go_wp2_with fail;exact bodyPost_ret (v:= .int .i64 z) (by simp[results,Tryz.results142,go_sem]) rfl ⟨rfl,Below.refl _ _⟩
theorem ans1_run (args:Array Value)(w:World):Sem.run Tryz.prog (callFunc 142 args) w= .ok (.enter 142 args) w:=by kernel_rfl
end Go.Proofs.YtecfcjdgmpopjaaGreat

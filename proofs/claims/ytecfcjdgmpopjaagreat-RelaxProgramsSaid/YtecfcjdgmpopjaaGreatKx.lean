/-
  Joined texts: Kw, Kx.
-/
import Derived.Test.YtecfcjdgmpopjaaGreatKv
import Derived.Deep.CutBlock
import Derived.Deep.DeepCutAuto
import Derived.Test.YtecfcjdgmpopjaaGreatKd
set_option maxHeartbeats 16000000
set_option maxRecDepth 100000
set_option linter.unusedSimpArgs false
set_option linter.unusedVariables false
namespace Go.Proofs.YtecfcjdgmpopjaaGreat
open Go.RowKit Num
def stopS (a:Rat)(y:Vr)(c:Option Bk)(i v:Nat):Option (Option Bk):=
 if 0<a then(match y.hi with
  |none=>some c
  |some h=>(subO h y.v).bind fun d=>(divO d a).map fun q=>nearS c q (some i) v)
 else if a<0 then(match y.lo with
  |none=>some c
  |some h=>(subO h y.v).bind fun d=>(divO d a).map fun q=>nearS c q (some i) v)
 else some c
theorem stopL_step (b:Tb)(k:Nat)(up:Bool)(i:Nat)(c:Option Bk)(l:List Rat)(ls:List (List Rat))(v:Nat)(vs:List Nat):
 stopL b k up i c (l::ls) (v::vs)=(stopS (if up then l.getD k 0 else-(l.getD k 0)) (b.var v) c i v).bind fun c'=>stopL b k up (i+1) c' ls vs:=rfl
theorem map_s {α β:Type}{o:Option α}{f:α→β}{a:α}(h:o=some a):o.map f=some (f a):=by rw[h];rfl
theorem map_n {α β:Type}{o:Option α}{f:α→β}(h:o=none):o.map f=none:=by rw[h];rfl
theorem bind_maps {α β γ:Type}{o:Option α}{f:α→Option β}{g:β→γ}{b:β}(h:o.bind f=some b):(o.bind fun d=>(f d).map g)=some (g b):=by
 cases o with
 |none=>cases h
 |some a=>exact map_s h
theorem sgn_pos {a:Rat}(h:sgnQ a=1):0<a:=of_decide_eq_true ((sgn_dec a).1.symm.trans (by rw[h];rfl))
theorem sgn_neg {a:Rat}(h:sgnQ a= -1):a<0:=of_decide_eq_true ((sgn_dec a).2.symm.trans (by rw[h];rfl))
theorem sgn_zero {a:Rat}(h:sgnQ a=0):¬0<a∧¬a<0:=⟨of_decide_eq_false ((sgn_dec a).1.symm.trans (by rw[h];rfl)),of_decide_eq_false ((sgn_dec a).2.symm.trans (by rw[h];rfl))⟩
def BkV (w:World)(v:Value):Option Bk→Prop
 |none=>v= .agg bk0
 |some k=>∃A c B d,v= .agg (bkC k A c B d)∧QR w A c B d k.far
theorem stops_any {w:World}{d:Ad}{b:Tb}{k:Nat}{up:Bool}(h:TAt tyT w d b)(hw:Wf b)(hk:k<b.free.length):Calls Tryz.prog 185 #[vptr d.t0,iv6 k,.bool up] w fun e w'=>Below w.heap.size w w'∧((∃c v,stopsT b k up=some c∧e= .returned v∧BkV w' v c)∨(stopsT b k up=none∧ThrewX e)):=by
 have HT:=ZH h;have HW:=ZH hw;obtain⟨h0,h1,h2,h3,h4,h5,h6⟩:=h.head.seven;have hvlt:=hw.fv k hk;obtain⟨gF,oF,hFA,cj⟩:=h.fr k hk;obtain⟨gV,oV,hVA,cv⟩:=h.vp _ hvlt;rw[hFA]at h3;rw[hVA]at h1;obtain⟨R,hR⟩:∃R,stopsT b k up=R:=⟨_,rfl⟩;rw[hR];have hst:=hw.st;have hbt:=hw.bt;have hbt1:b.basic.length≤b.t.length:=by omega
 have hbt2:b.t.length≤b.basic.length:=by omega
 obtain⟨v,hvg⟩:∃v,b.free.getD k 0=v:=⟨_,rfl⟩;have HR0:Hid (R=(if up then(match (b.var v).hi with|none=>some none|some h=>(subO h (b.var v).v).map fun q=>nearS none q none v) else(match (b.var v).lo with|none=>some none|some l=>(subO (b.var v).v l).map fun q=>nearS none q none v)).bind fun c=>stopL b k up 0 c b.t b.basic):=by
  show _=_;rw[←hR,←hvg];rfl
 have HVA:=ZH hVA;have V1:=Lk.of h1;have V2:=Lk.of h2;have V3:=Lk.of h3;have V4:=Lk.of h4;have CF:Lk w gF (oF+k) (iv6 v):=by rw[←hvg];exact Lk.of cj
 have CV:Lk w gV (oV+v) (vptr (d.vs.getD v 0)):=by rw[←hvg];exact Lk.of cv
 rw[hvg]at hvlt;have hva:=h.vr _ hvlt;clear hR hFA hVA h0 h1 h2 h3 h4 h5 h6 hbt hw hvg cj cv h;generalize d.F.2=cF at*;obtain⟨g,hg⟩:∃g,d.vs.getD v 0=g:=⟨_,rfl⟩;rw[hg]at CV hva;clear hg;generalize b.var v=x at*;obtain⟨lo,hi,xv⟩:=x;obtain⟨hlo,hhi,hxv⟩:=hva;obtain⟨A3,c3,B3,d3,x1,x2,x3,x4,hx⟩:=hxv;have X1:=Lk.of x1;have X2:=Lk.of x2;have X3:=Lk.of x3;have X4:=Lk.of x4;have HX:=ZH hx;have HLO:=ZH hlo;have HHI:=ZH hhi;clear x1 x2 x3 x4 hx hlo hhi;dsimp only at HR0;have M:=((Mem.start w).new 226 bk0).newAt (g:=w.heap.size+1) (by simp) 226 bk0;go_enter Tryz.func185,Tryz.ntmps185;go_upto_region 2 with fail;refine region_st (n:=14) (frame:= ?frame1) (fun jK=>[kP d.t0 0,kP d.t0 0,kP d.t0 1,kF (.slice (some ⟨gV,oV,none⟩) b.vars.length d.V.2),kP d.t0 0,kP d.t0 0,kP d.t0 3,kF (.slice (some ⟨gF,oF,none⟩) b.free.length cF),kI ((k:Nat)),kP gF (oF+k),kI ((v:Nat)),kP gV (oV+v),kP g 0,kP g 0].getD jK .none) [] (by kernel_rfl) (by kernel_rfl) (by kernel_rfl) rfl M (fun _ h=>by cases h) (fun _ h=>by cases h) ?_ ?_ ?_
 case refine_1=>
  intro s;simp only[fr,Act.put,zA,zB,zC,zD,zE,zF,Nat.reduceAdd];rfl
 case refine_2=>
  iterate 14 (refine SN ?_ ?_;rotate_left)
  exact Steps.nil;all_goals (intro L s w9 hN hU hi hS K hK;dsimp only at hK⊢;simp only[Act.put,zD,zE,zF]at hK)
  ·go_simp;exact hS.o hK
  ·simp only[hS.f hN 0]at hK⊢;go_simp;exact hS.o hK
  ·simp only[hS.f hN 1]at hK⊢;go_simp;exact hS.o hK
  ·simp only[hS.f hN 2]at hK⊢;have u0:=V1 _ hS.mem.bel;go_simp;exact hS.o hK
  ·go_simp;exact hS.o hK
  ·simp only[hS.f hN 4]at hK⊢;go_simp;exact hS.o hK
  ·simp only[hS.f hN 5]at hK⊢;go_simp;exact hS.o hK
  ·simp only[hS.f hN 6]at hK⊢;have u0:=V3 _ hS.mem.bel;go_simp;exact hS.o hK
  ·go_simp;exact hS.o hK
  ·simp only[hS.f hN 7,hS.f hN 8]at hK⊢;go_simp;exact hS.o hK
  ·simp only[hS.f hN 9]at hK⊢;have u0:=CF _ hS.mem.bel;go_simp;exact hS.o hK
  ·simp only[hS.f hN 3,hS.f hN 10]at hK⊢;go_simp;exact hS.o hK
  ·simp only[hS.f hN 11]at hK⊢;have u0:=CV _ hS.mem.bel;go_simp;exact hS.o hK
  ·simp only[hS.f hN 12]at hK⊢;go_simp;exact hS.o hK
 intro L s w9 hall hS;have e9:=hS.fx 13 rfl rfl (hall 13 (by decide));replace M:=hS.mem;simp only[e9];clear hS hall e9;go_upto_block 0 with fail;go_cut [] (fun wx=>∃c,Hid (R=stopL b k up 0 c (b.t.drop 0) (b.basic.drop 0))∧Below w.heap.size w wx∧Blk wx w.heap.size 226 bk0∧BkAt wx (w.heap.size+1) c)
 case first=>
  cases up with
  |true=>
   cases hi with
   |none=>
    have S0:w9.cell? ⟨g,5,none⟩=some (.bool false):=Lk.of HHI.out _ M.bel;have HR:Hid (R=(some none:Option (Option Bk)).bind fun c=>stopL b k true 0 c b.t b.basic):=HR0;have HC:Hid (R=stopL b k true 0 none (b.t.drop 0) (b.basic.drop 0)):=HR.out;have hb9:=M.k (i:=0) rfl;have hz9:=M.k (i:=1) rfl;have hq9:=M.bel;go_wp2_with fail;go_meet;exact⟨none,HC.out,hq9,hz9,hb9⟩
   |some hv=>
    obtain⟨hs,A5,c5,B5,d5,y1,y2,y3,y4,hy⟩:=HHI.out;have S0:w9.cell? ⟨g,5,none⟩=some (.bool true):=Lk.of hs _ M.bel;have Y1:=Lk.of y1;have Y2:=Lk.of y2;have Y3:=Lk.of y3;have Y4:=Lk.of y4;have HY:=ZH hy;have HR:Hid (R=((subO hv xv).map fun q=>nearS none q none v).bind fun c=>stopL b k true 0 c b.t b.basic):=HR0;clear hs y1 y2 y3 y4 hy HR0;go_upto_region 4 with fail;refine region_tail (n:=17) (frame:= ?frame2) (fun jK=>[kP g 0,kP g 0,kP g 5,kP g 6,kF (qv hv A5 c5 B5 d5),kP g 0,kP g 0,kP g 10,kF (qv xv A3 c3 B3 d3),.val (Sh.rq (subO hv xv)),kP d.t0 0,kP d.t0 0,kP d.t0 3,kF (.slice (some ⟨gF,oF,none⟩) b.free.length cF),kI ((k:Nat)),kP gF (oF+k),kI ((v:Nat))].getD jK .none) (fun s' w'=>∃q9,subO hv xv=some q9∧BkAt w' (w.heap.size+1) (nearS none q9 none v)∧Stp (fun b=>b=w.heap.size+1) w9 w') _ (by kernel_rfl) (by kernel_rfl) (by kernel_rfl) rfl rfl (by kernel_rfl) M.rebase ?_ ?_ ?_ ?_
    case refine_1=>
     intro s;simp only[fr,Act.put,zA,zB,zC,zD,zE,zF,Nat.reduceAdd];rfl
    case refine_2=>
     iterate 17 (refine SN ?_ ?_;rotate_left)
     exact Steps.nil;all_goals (intro L s w9 hN hU hi hS K hK;dsimp only at hK⊢;simp only[Act.put,zD,zE,zF]at hK)
     ·go_simp;exact hS.o hK
     ·simp only[hS.f hN 0]at hK⊢;go_simp;exact hS.o hK
     ·simp only[hS.f hN 1]at hK⊢;go_simp;exact hS.o hK
     ·simp only[hS.f hN 2]at hK⊢;go_simp;exact hS.o hK
     ·simp only[hS.f hN 3]at hK⊢;have u1:=Y1 _ (bT M.bel hS.mem.bel);have u2:=Y2 _ (bT M.bel hS.mem.bel);have u3:=Y3 _ (bT M.bel hS.mem.bel);have u4:=Y4 _ (bT M.bel hS.mem.bel);go_simp;exact hS.o hK
     ·go_simp;exact hS.o hK
     ·simp only[hS.f hN 5]at hK⊢;go_simp;exact hS.o hK
     ·simp only[hS.f hN 6]at hK⊢;go_simp;exact hS.o hK
     ·simp only[hS.f hN 7]at hK⊢;have u1:=X1 _ (bT M.bel hS.mem.bel);have u2:=X2 _ (bT M.bel hS.mem.bel);have u3:=X3 _ (bT M.bel hS.mem.bel);have u4:=X4 _ (bT M.bel hS.mem.bel);go_simp;exact hS.o hK
     ·simp only[hS.f hN 4,hS.f hN 8]at hK⊢;go_simp;go_at_call 120;refine(psub_any (HY.out.below (bT M.bel hS.mem.bel)) (HX.out.below (bT M.bel hS.mem.bel))).mono ?_;rintro e9 w10 ⟨q,⟨q9,A9,c9,B9,d9,ho9,rfl,hq9⟩|⟨ho9,v9,rfl⟩⟩
      ·exact hK.out _ _ (hS.val rfl (nSo rfl) q ⟨q9,A9,c9,B9,d9,ho9,rfl,hq9⟩)
      ·exact⟨rfl,bT (bT M.bel hS.mem.bel) q,.inr ⟨HR.out.trans (bind_n (map_n ho9)),v9,rfl⟩⟩
     ·go_simp;exact hS.o hK
     ·simp only[hS.f hN 10]at hK⊢;go_simp;exact hS.o hK
     ·simp only[hS.f hN 11]at hK⊢;go_simp;exact hS.o hK
     ·simp only[hS.f hN 12]at hK⊢;have u0:=V3 _ (bT M.bel hS.mem.bel);go_simp;exact hS.o hK
     ·go_simp;exact hS.o hK
     ·simp only[hS.f hN 13,hS.f hN 14]at hK⊢;go_simp;exact hS.o hK
     ·simp only[hS.f hN 15]at hK⊢;have u0:=CF _ (bT M.bel hS.mem.bel);go_simp;exact hS.o hK
    case refine_3=>
     intro L s w9 hall hS K hK;dsimp only at hK⊢;simp only[Act.put,zD,zE,zF]at hK;obtain⟨q9,A9,c9,B9,d9,o9,e9,h9⟩:=hS.val_at 9 rfl (by decide) (hall 9 (by decide));simp only[e9]at hK⊢;simp only[hS.fx 16 rfl rfl (hall 16 (by decide))]at hK⊢;refine ite_of rfl ?_;go_simp;go_at_call 204;refine(near_any (c:=none) (line:=none) (v:=v) (hS.mem.k (i:=0) rfl) h9).mono ?_;rintro e9 w10 ⟨rfl,hs9,hb9⟩;exact hK.out _ _ ⟨_,o9,hb9,(Stp.of hS.mem.bel).trans hs9⟩
    intro s w9 hR;obtain⟨q9,ho9,hb9,hs9⟩:=hR;have hz9:=Blk.stp (M.k (i:=1) rfl) hs9 (by omega);have HC:Hid (R=stopL b k true 0 (nearS none q9 none v) (b.t.drop 0) (b.basic.drop 0)):=HR.out.trans (by rw[ho9];rfl);have hq9:=hs9.below M.bel M.bel.size (fun k hk=>by omega);go_wp2_with fail;go_meet;exact⟨_,HC.out,hq9,hz9,hb9⟩
  |false=>
   cases lo with
   |none=>
    have S0:w9.cell? ⟨g,0,none⟩=some (.bool false):=Lk.of HLO.out _ M.bel;have HR:Hid (R=(some none:Option (Option Bk)).bind fun c=>stopL b k false 0 c b.t b.basic):=HR0;have HC:Hid (R=stopL b k false 0 none (b.t.drop 0) (b.basic.drop 0)):=HR.out;have hb9:=M.k (i:=0) rfl;have hz9:=M.k (i:=1) rfl;have hq9:=M.bel;go_wp2_with fail;go_meet;exact⟨none,HC.out,hq9,hz9,hb9⟩
   |some hv=>
    obtain⟨hs,A5,c5,B5,d5,y1,y2,y3,y4,hy⟩:=HLO.out;have S0:w9.cell? ⟨g,0,none⟩=some (.bool true):=Lk.of hs _ M.bel;have Y1:=Lk.of y1;have Y2:=Lk.of y2;have Y3:=Lk.of y3;have Y4:=Lk.of y4;have HY:=ZH hy;have HR:Hid (R=((subO xv hv).map fun q=>nearS none q none v).bind fun c=>stopL b k false 0 c b.t b.basic):=HR0;clear hs y1 y2 y3 y4 hy HR0;go_upto_region 6 with fail;refine region_tail (n:=17) (frame:= ?frame3) (fun jK=>[kP g 0,kP g 0,kP g 10,kF (qv xv A3 c3 B3 d3),kP g 0,kP g 0,kP g 0,kP g 1,kF (qv hv A5 c5 B5 d5),.val (Sh.rq (subO xv hv)),kP d.t0 0,kP d.t0 0,kP d.t0 3,kF (.slice (some ⟨gF,oF,none⟩) b.free.length cF),kI ((k:Nat)),kP gF (oF+k),kI ((v:Nat))].getD jK .none) (fun s' w'=>∃q9,subO xv hv=some q9∧BkAt w' (w.heap.size+1) (nearS none q9 none v)∧Stp (fun b=>b=w.heap.size+1) w9 w') _ (by kernel_rfl) (by kernel_rfl) (by kernel_rfl) rfl rfl (by kernel_rfl) M.rebase ?_ ?_ ?_ ?_
    case refine_1=>
     intro s;simp only[fr,Act.put,zA,zB,zC,zD,zE,zF,Nat.reduceAdd];rfl
    case refine_2=>
     iterate 17 (refine SN ?_ ?_;rotate_left)
     exact Steps.nil;all_goals (intro L s w9 hN hU hi hS K hK;dsimp only at hK⊢;simp only[Act.put,zD,zE,zF]at hK)
     ·go_simp;exact hS.o hK
     ·simp only[hS.f hN 0]at hK⊢;go_simp;exact hS.o hK
     ·simp only[hS.f hN 1]at hK⊢;go_simp;exact hS.o hK
     ·simp only[hS.f hN 2]at hK⊢;have u1:=X1 _ (bT M.bel hS.mem.bel);have u2:=X2 _ (bT M.bel hS.mem.bel);have u3:=X3 _ (bT M.bel hS.mem.bel);have u4:=X4 _ (bT M.bel hS.mem.bel);go_simp;exact hS.o hK
     ·go_simp;exact hS.o hK
     ·simp only[hS.f hN 4]at hK⊢;go_simp;exact hS.o hK
     ·simp only[hS.f hN 5]at hK⊢;go_simp;exact hS.o hK
     ·simp only[hS.f hN 6]at hK⊢;go_simp;exact hS.o hK
     ·simp only[hS.f hN 7]at hK⊢;have u1:=Y1 _ (bT M.bel hS.mem.bel);have u2:=Y2 _ (bT M.bel hS.mem.bel);have u3:=Y3 _ (bT M.bel hS.mem.bel);have u4:=Y4 _ (bT M.bel hS.mem.bel);go_simp;exact hS.o hK
     ·simp only[hS.f hN 3,hS.f hN 8]at hK⊢;go_simp;go_at_call 120;refine(psub_any (HX.out.below (bT M.bel hS.mem.bel)) (HY.out.below (bT M.bel hS.mem.bel))).mono ?_;rintro e9 w10 ⟨q,⟨q9,A9,c9,B9,d9,ho9,rfl,hq9⟩|⟨ho9,v9,rfl⟩⟩
      ·exact hK.out _ _ (hS.val rfl (nSo rfl) q ⟨q9,A9,c9,B9,d9,ho9,rfl,hq9⟩)
      ·exact⟨rfl,bT (bT M.bel hS.mem.bel) q,.inr ⟨HR.out.trans (bind_n (map_n ho9)),v9,rfl⟩⟩
     ·go_simp;exact hS.o hK
     ·simp only[hS.f hN 10]at hK⊢;go_simp;exact hS.o hK
     ·simp only[hS.f hN 11]at hK⊢;go_simp;exact hS.o hK
     ·simp only[hS.f hN 12]at hK⊢;have u0:=V3 _ (bT M.bel hS.mem.bel);go_simp;exact hS.o hK
     ·go_simp;exact hS.o hK
     ·simp only[hS.f hN 13,hS.f hN 14]at hK⊢;go_simp;exact hS.o hK
     ·simp only[hS.f hN 15]at hK⊢;have u0:=CF _ (bT M.bel hS.mem.bel);go_simp;exact hS.o hK
    case refine_3=>
     intro L s w9 hall hS K hK;dsimp only at hK⊢;simp only[Act.put,zD,zE,zF]at hK;obtain⟨q9,A9,c9,B9,d9,o9,e9,h9⟩:=hS.val_at 9 rfl (by decide) (hall 9 (by decide));simp only[e9]at hK⊢;simp only[hS.fx 16 rfl rfl (hall 16 (by decide))]at hK⊢;refine ite_of rfl ?_;go_simp;go_at_call 204;refine(near_any (c:=none) (line:=none) (v:=v) (hS.mem.k (i:=0) rfl) h9).mono ?_;rintro e9 w10 ⟨rfl,hs9,hb9⟩;exact hK.out _ _ ⟨_,o9,hb9,(Stp.of hS.mem.bel).trans hs9⟩
    intro s w9 hR;obtain⟨q9,ho9,hb9,hs9⟩:=hR;have hz9:=Blk.stp (M.k (i:=1) rfl) hs9 (by omega);have HC:Hid (R=stopL b k false 0 (nearS none q9 none v) (b.t.drop 0) (b.basic.drop 0)):=HR.out.trans (by rw[ho9];rfl);have hq9:=hs9.below M.bel M.bel.size (fun k hk=>by omega);go_wp2_with fail;go_meet;exact⟨_,HC.out,hq9,hz9,hb9⟩
 case rest=>
  obtain⟨c0,HC0,hq0,hz0,hb0⟩:=hcut;clear HR0 M X1 X2 X3 X4 HX HLO HHI CF CV hvlt V3;obtain⟨BA,hBA⟩:∃BA,d.B.1=BA:=⟨_,rfl⟩;rw[hBA]at V2;have HBA:=ZH hBA;clear hBA;generalize d.B.2=cB at*;have h2:=V2 _ hq0;go_wp2_with fail;go_loopg [87] b.basic.length (fun z p wr=>∃(i:Nat)(c:Option Bk),z=b.basic.length-i∧i≤b.basic.length∧p= .int .i64 (i:Nat)∧Hid (R=stopL b k up i c (b.t.drop i) (b.basic.drop i))∧Below w.heap.size w wr∧Blk wr w.heap.size 226 bk0∧BkAt wr (w.heap.size+1) c)
  case atStart=>exact⟨0,c0,rfl,Nat.zero_le _,rfl,HC0.out,hq0,hz0,hb0⟩
  case round=>
   clear h2 hz0 hb0 hq0 HC0;obtain⟨i,c,hz,hi,rfl,HL,hq,hz8,hb8⟩:=hrel;by_cases hlt:i<b.basic.length
   ·have d1:decide ((i:Int)<(b.basic.length:Int))=true:=dT (by omega);have hlt2:i<b.t.length:=by omega
    have HTr:=ZH (HT.out.below hq);have HC:Hid (R=(stopS (if up then(b.t.getD i []).getD k 0 else-((b.t.getD i []).getD k 0)) (b.var (b.basic.getD i 0)) c i (b.basic.getD i 0)).bind fun c'=>stopL b k up (i+1) c' (b.t.drop (i+1)) (b.basic.drop (i+1))):=by
     show _=_;rw[HL.out,drop_at (z:=[]) hlt2,drop_at (z:=0) hlt,stopL_step]
    have hvlt:=HW.out.bv i hlt;have hkl:k<(b.t.getD i []).length:=by rw[HW.out.ft i hlt2];exact hk
    obtain⟨gB,oB,hB,cj⟩:=HTr.out.ba i hlt;rw[HBA.out]at hB;subst hB;obtain⟨gV',oV',hV,cv⟩:=HTr.out.vp _ hvlt;have h1:=V1 _ hq;have h4:=V4 _ hq;rw[show(some ⟨gV,oV,none⟩:Option Addr)=some ⟨gV',oV',none⟩ from HVA.out.symm.trans hV]at h1;obtain⟨gT,oT,hT,ct⟩:=HTr.out.tp i hlt2;rw[hT]at h4;obtain⟨gL,oL,hL,A',c',B',d2,a1,a2,a3,a4,hqa⟩:=HTr.out.tr i hlt2 k hkl;replace ct:wr.cell? ⟨gT,oT+i,none⟩=some (.slice (d.ls.getD i (none,0)).1 (b.t.getD i []).length (d.ls.getD i (none,0)).2):=ct;have hL':(d.ls.getD i (none,0)).1=some ⟨gL,oL,none⟩:=hL;rw[hL']at ct;obtain⟨v',hvg⟩:∃v',b.basic.getD i 0=v':=⟨_,rfl⟩;replace cj:wr.cell? ⟨gB,oB+i,none⟩=some (iv6 v'):=by rw[←hvg];exact cj
    have CV:Lk wr gV' (oV'+v') (vptr (d.vs.getD v' 0)):=by rw[←hvg];exact Lk.of cv
    rw[hvg]at HC hvlt;have hva:=HTr.out.vr _ hvlt;have W1:=Lk.of h1;have HA:=ZH hqa;have HQ:=ZH hq;have HZ8:=ZH hz8;have HB8:=ZH hb8;clear cv hvg h1 hqa HL hV hT hL hL' hz8 hb8;obtain⟨y,hy⟩:∃y,d.vs.getD v' 0=y:=⟨_,rfl⟩;rw[hy]at CV hva;clear hy;generalize b.var v'=yy at*;obtain⟨ylo,yhi,yv⟩:=yy;obtain⟨hlo,hhi,hxv⟩:=hva;obtain⟨A3,c3,B3,d3,x1,x2,x3,x4,hx⟩:=hxv;have X1:=Lk.of x1;have X2:=Lk.of x2;have X3:=Lk.of x3;have X4:=Lk.of x4;have HX:=ZH hx;have HLO:=ZH hlo;have HHI:=ZH hhi;clear x1 x2 x3 x4 hx hlo hhi;dsimp only at HX X1 X2 X3 X4;generalize (b.t.getD i []).getD k 0=a at*;generalize (b.t.getD i []).length=ll at*;generalize (d.ls.getD i (none,0)).2=cL at*;generalize d.T.2=cT' at*;generalize d.V.2=cV' at*;obtain⟨a',ha'⟩:∃a',(if up then a else-a)=a':=⟨_,rfl⟩;rw[ha']at HC;have M:=(Mem.start wr).new 72 z4;go_upto_if 103 with ((with_reducible refine st_ ?_);refine wP2 _ _ (M.k (i:=0) rfl) rfl rfl rfl rfl info_rat rfl rfl ?_;intro w4 b4 g4;replace M:=M.row (by omega) (by simp) rfl b4 g4;clear b4 g4);go_cut [] (fun wx=>∃A1 c1 B1 d1,Mem wr wx [(wr.heap.size,72,qcs a' A1 c1 B1 d1)] []∧QR wx A1 c1 B1 d1 a')
    case first=>
     cases up with
     |true=>
      obtain rfl:a=a':=ha';go_wp2_with fail;go_meet;exact⟨A',c',B',d2,M,HA.out.below M.bel⟩
     |false=>
      obtain rfl: -a=a':=ha';obtain⟨z1,z2,z3,z4⟩:=(M.k (i:=0) rfl).four;go_wp2_with fail;refine(pneg_any (HA.out.below M.bel)).mono ?_;rintro e w5 ⟨q5,A1,c1,B1,d1,rfl,hq1⟩;replace M:=M.below q5;have HQ1:=ZH hq1;clear hq1 z1 z2 z3 z4;go_wp2_with ((with_reducible refine st_ ?_);refine wP2 _ _ (M.k (i:=0) rfl) rfl rfl rfl rfl info_rat rfl rfl ?_;intro w6 b6 g6;have HQ6:=ZH (HQ1.out.boxed ((M.k (i:=0) rfl).box rfl) g6);replace M:=M.row (by omega) (by simp) rfl b6 g6;clear b6 g6);go_meet;exact⟨A1,c1,B1,d1,M,HQ6.out⟩
    case rest=>
     obtain⟨A1,c1,B1,d1,M,hq1⟩:=hcut;rename_i M0;have HA1:=ZH hq1;have h1:=W1 _ M.bel;have cv:=CV _ M.bel;obtain⟨z1,z2,z3,z4⟩:=(M.k (i:=0) rfl).four;clear ha' HA a1 a2 a3 a4 cj ct h4 hq1;go_wp2_with fail;refine(psign_any (p:=a') (A:=A1) (c:=c1) (B:=B1) (d:=d1)).mono ?_;rintro e w6 ⟨rfl,q6⟩;replace M:=M.below q6;have HA1:=ZH (HA1.out.below q6);clear z1 z2 z3 z4 h1 cv q6;rcases sgn_three a' with hs|hs|hs
     ·rw[hs];have hpos:=sgn_pos hs;clear hs;cases yhi with
      |none=>
       have S0:w6.cell? ⟨y,5,none⟩=some (.bool false):=Lk.of HHI.out _ M.bel;have HC1:Hid (R=(some c:Option (Option Bk)).bind fun c'=>stopL b k up (i+1) c' (b.t.drop (i+1)) (b.basic.drop (i+1))):=HC.out.trans (by unfold stopS;rw[if_pos hpos]);have HC2:Hid (R=stopL b k up (i+1) c (b.t.drop (i+1)) (b.basic.drop (i+1))):=HC1.out;have hq9:=bT HQ.out M.bel;have hz9:=HZ8.out.below M.bel ZL;have hb9:=HB8.out.below M.bel;go_wp2_with fail;go_roundg (b.basic.length-(i+1))
       case measure=>omega
       case rel=>exact⟨i+1,c,rfl,by omega,by simp,HC2.out,hq9,hz9,hb9⟩
      |some h=>
       obtain⟨hs,A5,c5,B5,d5,y1,y2,y3,y4,hy⟩:=HHI.out;have S0:w6.cell? ⟨y,5,none⟩=some (.bool true):=Lk.of hs _ M.bel;have Y1:=Lk.of y1;have Y2:=Lk.of y2;have Y3:=Lk.of y3;have Y4:=Lk.of y4;have HH:=ZH hy;have HC1:Hid (R=((subO h yv).bind fun d=>(divO d a').map fun q=>nearS c q (some i) v').bind fun c'=>stopL b k up (i+1) c' (b.t.drop (i+1)) (b.basic.drop (i+1))):=HC.out.trans (by unfold stopS;rw[if_pos hpos]);clear hs y1 y2 y3 y4 hy HC hpos;go_upto_region 16 with fail;have hb6:=ZH (HB8.out.below M.bel);have hq6:=bT HQ.out M.bel;have hz6:=ZH (HZ8.out.below M.bel ZL);refine region_tail (n:=14) (frame:= ?frame4) (fun jK=>[kP y 0,kP y 0,kP y 5,kP y 6,kF (qv h A5 c5 B5 d5),kP y 0,kP y 0,kP y 10,kF (qv yv A3 c3 B3 d3),.val (Sh.rq (subO h yv)),kF (.agg #[.bool (sN a'.num),.slice A1 (sD a'.num).length c1,.bool false,.slice B1 (dig a'.den).length d1]),.val (Sh.rq ((subO h yv).bind fun d=>divO d a')),kI ((i:Nat)),kI ((v':Nat))].getD jK .none) (fun s' w'=>∃q9,((subO h yv).bind fun d=>divO d a')=some q9∧BkAt w' (w.heap.size+1) (nearS c q9 (some i) v')∧Stp (fun b=>b=w.heap.size+1) w6 w') _ (by kernel_rfl) (by kernel_rfl) (by kernel_rfl) rfl rfl (by kernel_rfl) M.rebase ?_ ?_ ?_ ?_
       case refine_1=>
        intro s;simp only[fr,Act.put,zA,zB,zC,zD,zE,zF,Nat.reduceAdd];rfl
       case refine_2=>
        iterate 14 (refine SN ?_ ?_;rotate_left)
        exact Steps.nil;all_goals (intro L s w9 hN hU hi hS K hK;dsimp only at hK⊢;simp only[Act.put,zD,zE,zF]at hK)
        ·go_simp;exact hS.o hK
        ·simp only[hS.f hN 0]at hK⊢;go_simp;exact hS.o hK
        ·simp only[hS.f hN 1]at hK⊢;go_simp;exact hS.o hK
        ·simp only[hS.f hN 2]at hK⊢;go_simp;exact hS.o hK
        ·simp only[hS.f hN 3]at hK⊢;have u1:=Y1 _ (bT M.bel hS.mem.bel);have u2:=Y2 _ (bT M.bel hS.mem.bel);have u3:=Y3 _ (bT M.bel hS.mem.bel);have u4:=Y4 _ (bT M.bel hS.mem.bel);go_simp;exact hS.o hK
        ·go_simp;exact hS.o hK
        ·simp only[hS.f hN 5]at hK⊢;go_simp;exact hS.o hK
        ·simp only[hS.f hN 6]at hK⊢;go_simp;exact hS.o hK
        ·simp only[hS.f hN 7]at hK⊢;have u1:=X1 _ (bT M.bel hS.mem.bel);have u2:=X2 _ (bT M.bel hS.mem.bel);have u3:=X3 _ (bT M.bel hS.mem.bel);have u4:=X4 _ (bT M.bel hS.mem.bel);go_simp;exact hS.o hK
        ·simp only[hS.f hN 4,hS.f hN 8]at hK⊢;go_simp;go_at_call 120;refine(psub_any (HH.out.below (bT M.bel hS.mem.bel)) (HX.out.below (bT M.bel hS.mem.bel))).mono ?_;rintro e9 w10 ⟨q,⟨q9,A9,c9,B9,d9,ho9,rfl,hq9⟩|⟨ho9,v9,rfl⟩⟩
         ·exact hK.out _ _ (hS.val rfl (nSo rfl) q ⟨q9,A9,c9,B9,d9,ho9,rfl,hq9⟩)
         ·exact⟨rfl,bT (bT hq6 hS.mem.bel) q,.inr ⟨HC1.out.trans (bind_n (bind_n ho9)),v9,rfl⟩⟩
        ·obtain⟨u1,u2,u3,u4⟩:=(hS.mem.k (i:=0) rfl).four;go_simp;exact hS.o hK
        ·obtain⟨q9,A9,c9,B9,d9,o9,e9,h9⟩:=hS.val_at 9 rfl (by decide) (hN.out 9 rfl);simp only[e9,hS.f hN 10]at hK⊢;go_simp;go_at_call 182;refine(pdiv_any h9 (HA1.out.below hS.mem.bel)).mono ?_;rintro e9 w10 ⟨q,⟨q9,A9,c9,B9,d9,ho9,rfl,hq9⟩|⟨ho9,v9,rfl⟩⟩
         ·exact hK.out _ _ (hS.val rfl (nSo rfl) q ⟨q9,A9,c9,B9,d9,bind_s o9 ho9,rfl,hq9⟩)
         ·exact⟨rfl,bT (bT hq6 hS.mem.bel) q,.inr ⟨HC1.out.trans (bind_n (bind_sn o9 (map_n ho9))),v9,rfl⟩⟩
        iterate 2 (go_simp;exact hS.o hK)
       case refine_3=>
        intro L s w9 hall hS K hK;dsimp only at hK⊢;simp only[Act.put,zD,zE,zF]at hK;obtain⟨q11,A11,c11,B11,d11,o11,e11,h11⟩:=hS.val_at 11 rfl (by decide) (hall 11 (by decide));simp only[e11]at hK⊢;simp only[hS.fx 12 rfl rfl (hall 12 (by decide))]at hK⊢;simp only[hS.fx 13 rfl rfl (hall 13 (by decide))]at hK⊢;refine ite_of rfl ?_;go_simp;go_at_call 204;refine(near_any (c:=c) (line:=some i) (v:=v') (hb6.out.below hS.mem.bel) h11).mono ?_;rintro e9 w10 ⟨rfl,hs9,hb9⟩;exact hK.out _ _ ⟨_,o11,hb9,(Stp.of hS.mem.bel).trans hs9⟩
       intro s w9 hR;obtain⟨q9,ho9,hb9,hs9⟩:=hR;have hz9:=Blk.stp hz6.out hs9 (by omega);have HC2:Hid (R=stopL b k up (i+1) (nearS c q9 (some i) v') (b.t.drop (i+1)) (b.basic.drop (i+1))):=HC1.out.trans (by rw[bind_maps ho9];rfl);have hq9:=hs9.below hq6 hq6.size (fun k hk=>by omega);go_wp2_with fail;go_roundg (b.basic.length-(i+1))
       case measure=>omega
       case rel=>exact⟨i+1,(nearS c q9 (some i) v'),rfl,by omega,by simp,HC2.out,hq9,hz9,hb9⟩
     ·rw[hs];have hneg:=sgn_neg hs;have hnp:¬0<a':=fun h=>absurd (Std.lt_trans h hneg) Rat.lt_irrefl;clear hs;cases ylo with
      |none=>
       have S0:w6.cell? ⟨y,0,none⟩=some (.bool false):=Lk.of HLO.out _ M.bel;have HC1:Hid (R=(some c:Option (Option Bk)).bind fun c'=>stopL b k up (i+1) c' (b.t.drop (i+1)) (b.basic.drop (i+1))):=HC.out.trans (by unfold stopS;rw[if_neg hnp,if_pos hneg]);have HC2:Hid (R=stopL b k up (i+1) c (b.t.drop (i+1)) (b.basic.drop (i+1))):=HC1.out;have hq9:=bT HQ.out M.bel;have hz9:=HZ8.out.below M.bel ZL;have hb9:=HB8.out.below M.bel;go_wp2_with fail;go_roundg (b.basic.length-(i+1))
       case measure=>omega
       case rel=>exact⟨i+1,c,rfl,by omega,by simp,HC2.out,hq9,hz9,hb9⟩
      |some h=>
       obtain⟨hs,A5,c5,B5,d5,y1,y2,y3,y4,hy⟩:=HLO.out;have S0:w6.cell? ⟨y,0,none⟩=some (.bool true):=Lk.of hs _ M.bel;have Y1:=Lk.of y1;have Y2:=Lk.of y2;have Y3:=Lk.of y3;have Y4:=Lk.of y4;have HH:=ZH hy;have HC1:Hid (R=((subO h yv).bind fun d=>(divO d a').map fun q=>nearS c q (some i) v').bind fun c'=>stopL b k up (i+1) c' (b.t.drop (i+1)) (b.basic.drop (i+1))):=HC.out.trans (by unfold stopS;rw[if_neg hnp,if_pos hneg]);clear hs y1 y2 y3 y4 hy HC hneg hnp;go_upto_region 18 with fail;have hb6:=ZH (HB8.out.below M.bel);have hq6:=bT HQ.out M.bel;have hz6:=ZH (HZ8.out.below M.bel ZL);refine region_tail (n:=14) (frame:= ?frame5) (fun jK=>[kP y 0,kP y 0,kP y 0,kP y 1,kF (qv h A5 c5 B5 d5),kP y 0,kP y 0,kP y 10,kF (qv yv A3 c3 B3 d3),.val (Sh.rq (subO h yv)),kF (.agg #[.bool (sN a'.num),.slice A1 (sD a'.num).length c1,.bool false,.slice B1 (dig a'.den).length d1]),.val (Sh.rq ((subO h yv).bind fun d=>divO d a')),kI ((i:Nat)),kI ((v':Nat))].getD jK .none) (fun s' w'=>∃q9,((subO h yv).bind fun d=>divO d a')=some q9∧BkAt w' (w.heap.size+1) (nearS c q9 (some i) v')∧Stp (fun b=>b=w.heap.size+1) w6 w') _ (by kernel_rfl) (by kernel_rfl) (by kernel_rfl) rfl rfl (by kernel_rfl) M.rebase ?_ ?_ ?_ ?_
       case refine_1=>
        intro s;simp only[fr,Act.put,zA,zB,zC,zD,zE,zF,Nat.reduceAdd];rfl
       case refine_2=>
        iterate 14 (refine SN ?_ ?_;rotate_left)
        exact Steps.nil;all_goals (intro L s w9 hN hU hi hS K hK;dsimp only at hK⊢;simp only[Act.put,zD,zE,zF]at hK)
        ·go_simp;exact hS.o hK
        ·simp only[hS.f hN 0]at hK⊢;go_simp;exact hS.o hK
        ·simp only[hS.f hN 1]at hK⊢;go_simp;exact hS.o hK
        ·simp only[hS.f hN 2]at hK⊢;go_simp;exact hS.o hK
        ·simp only[hS.f hN 3]at hK⊢;have u1:=Y1 _ (bT M.bel hS.mem.bel);have u2:=Y2 _ (bT M.bel hS.mem.bel);have u3:=Y3 _ (bT M.bel hS.mem.bel);have u4:=Y4 _ (bT M.bel hS.mem.bel);go_simp;exact hS.o hK
        ·go_simp;exact hS.o hK
        ·simp only[hS.f hN 5]at hK⊢;go_simp;exact hS.o hK
        ·simp only[hS.f hN 6]at hK⊢;go_simp;exact hS.o hK
        ·simp only[hS.f hN 7]at hK⊢;have u1:=X1 _ (bT M.bel hS.mem.bel);have u2:=X2 _ (bT M.bel hS.mem.bel);have u3:=X3 _ (bT M.bel hS.mem.bel);have u4:=X4 _ (bT M.bel hS.mem.bel);go_simp;exact hS.o hK
        ·simp only[hS.f hN 4,hS.f hN 8]at hK⊢;go_simp;go_at_call 120;refine(psub_any (HH.out.below (bT M.bel hS.mem.bel)) (HX.out.below (bT M.bel hS.mem.bel))).mono ?_;rintro e9 w10 ⟨q,⟨q9,A9,c9,B9,d9,ho9,rfl,hq9⟩|⟨ho9,v9,rfl⟩⟩
         ·exact hK.out _ _ (hS.val rfl (nSo rfl) q ⟨q9,A9,c9,B9,d9,ho9,rfl,hq9⟩)
         ·exact⟨rfl,bT (bT hq6 hS.mem.bel) q,.inr ⟨HC1.out.trans (bind_n (bind_n ho9)),v9,rfl⟩⟩
        ·obtain⟨u1,u2,u3,u4⟩:=(hS.mem.k (i:=0) rfl).four;go_simp;exact hS.o hK
        ·obtain⟨q9,A9,c9,B9,d9,o9,e9,h9⟩:=hS.val_at 9 rfl (by decide) (hN.out 9 rfl);simp only[e9,hS.f hN 10]at hK⊢;go_simp;go_at_call 182;refine(pdiv_any h9 (HA1.out.below hS.mem.bel)).mono ?_;rintro e9 w10 ⟨q,⟨q9,A9,c9,B9,d9,ho9,rfl,hq9⟩|⟨ho9,v9,rfl⟩⟩
         ·exact hK.out _ _ (hS.val rfl (nSo rfl) q ⟨q9,A9,c9,B9,d9,bind_s o9 ho9,rfl,hq9⟩)
         ·exact⟨rfl,bT (bT hq6 hS.mem.bel) q,.inr ⟨HC1.out.trans (bind_n (bind_sn o9 (map_n ho9))),v9,rfl⟩⟩
        iterate 2 (go_simp;exact hS.o hK)
       case refine_3=>
        intro L s w9 hall hS K hK;dsimp only at hK⊢;simp only[Act.put,zD,zE,zF]at hK;obtain⟨q11,A11,c11,B11,d11,o11,e11,h11⟩:=hS.val_at 11 rfl (by decide) (hall 11 (by decide));simp only[e11]at hK⊢;simp only[hS.fx 12 rfl rfl (hall 12 (by decide))]at hK⊢;simp only[hS.fx 13 rfl rfl (hall 13 (by decide))]at hK⊢;refine ite_of rfl ?_;go_simp;go_at_call 204;refine(near_any (c:=c) (line:=some i) (v:=v') (hb6.out.below hS.mem.bel) h11).mono ?_;rintro e9 w10 ⟨rfl,hs9,hb9⟩;exact hK.out _ _ ⟨_,o11,hb9,(Stp.of hS.mem.bel).trans hs9⟩
       intro s w9 hR;obtain⟨q9,ho9,hb9,hs9⟩:=hR;have hz9:=Blk.stp hz6.out hs9 (by omega);have HC2:Hid (R=stopL b k up (i+1) (nearS c q9 (some i) v') (b.t.drop (i+1)) (b.basic.drop (i+1))):=HC1.out.trans (by rw[bind_maps ho9];rfl);have hq9:=hs9.below hq6 hq6.size (fun k hk=>by omega);go_wp2_with fail;go_roundg (b.basic.length-(i+1))
       case measure=>omega
       case rel=>exact⟨i+1,(nearS c q9 (some i) v'),rfl,by omega,by simp,HC2.out,hq9,hz9,hb9⟩
     ·rw[hs];obtain⟨hnp,hnn⟩:=sgn_zero hs;clear hs;have HC1:Hid (R=(some c:Option (Option Bk)).bind fun c'=>stopL b k up (i+1) c' (b.t.drop (i+1)) (b.basic.drop (i+1))):=HC.out.trans (by unfold stopS;rw[if_neg hnp,if_neg hnn]);clear hnp hnn;have HC2:Hid (R=stopL b k up (i+1) c (b.t.drop (i+1)) (b.basic.drop (i+1))):=HC1.out;have hq9:=bT HQ.out M.bel;have hz9:=HZ8.out.below M.bel ZL;have hb9:=HB8.out.below M.bel;go_wp2_with fail;go_roundg (b.basic.length-(i+1))
      case measure=>omega
      case rel=>exact⟨i+1,c,rfl,by omega,by simp,HC2.out,hq9,hz9,hb9⟩
   ·have d1:decide ((i:Int)<(b.basic.length:Int))=false:=dF (by omega);have hlt2:¬i<b.t.length:=by omega
    have HC2:Hid (R=some c):=by
     show _=_;rw[HL.out,drop_none hlt,drop_none hlt2];rfl
    have HQ:=ZH hq;clear HL;cases c with
    |none=>
     obtain⟨u0,u1,u2,u3,u4,u5,u6⟩:=Blk.seven hb8;go_wp2_with ((with_reducible refine st_ ?_);refine wP2 _ _ hz8 rfl rfl rfl rfl info_block rfl rfl ?_;intro w5 b5 g5';obtain⟨f0,f1,f2,f3,f4,f5,f6⟩:=Blk.seven b5);refine bodyPost_ret (v:= .agg bk0) (by simp[results,Tryz.results185,go_sem,f0,f1,f2,f3,f4,f5,f6]) rfl ⟨below_own HQ.out g5' ZL,.inl ⟨none,_,HC2.out,rfl,rfl⟩⟩
    |some kk=>
     obtain⟨A5,c5,B5,d5,hb8,hq8⟩:=hb8;obtain⟨u0,u1,u2,u3,u4,u5,u6⟩:=Blk.seven hb8;have HQ8:=ZH hq8;clear hq8;go_wp2_with ((with_reducible refine st_ ?_);refine wP2 _ _ hz8 rfl rfl rfl rfl info_block rfl rfl ?_;intro w5 b5 g5';obtain⟨f0,f1,f2,f3,f4,f5,f6⟩:=Blk.seven b5);refine bodyPost_ret (v:= .agg (bkC kk A5 c5 B5 d5)) (by simp[results,Tryz.results185,go_sem,f0,f1,f2,f3,f4,f5,f6]) rfl ⟨below_own HQ.out g5' ZL,.inl ⟨some kk,_,HC2.out,rfl,A5,c5,B5,d5,rfl,HQ8.out.boxed (hz8.box rfl) g5'⟩⟩
def NRow (w:World)(base:Nat)(e:TypeId)(size:Nat)(v:Value)(n:Nat)(xs:List Value):Prop:=w.ownsRow base e size v n xs∧∀g,v.ownBlock=some g→Box w g
theorem NRow.nil (w:World)(base:Nat)(e:TypeId)(size:Nat):NRow w base e size (.slice none 0 0) 0 []:=⟨World.ownsRow_nil w base e size,fun g h=>by cases h⟩
theorem nu_zero {z:Array Value}(h:z.toList.all nu=true)(n:Nat):(Builtin.zeroCells z n).toList.all nu=true:=by
 refine List.all_eq_true.2 fun x hx=> ?_;unfold Builtin.zeroCells at hx;rw[Array.toList_map,List.mem_map]at hx;obtain⟨i,hi,rfl⟩:=hx;have hi2:i<n*z.size:=by simpa using hi
 have hs:0<z.size:=by
  rcases Nat.eq_zero_or_pos z.size with h0|h0
  ·rw[h0,Nat.mul_zero]at hi2;omega
  ·exact h0
 have hlt:=Nat.mod_lt i hs;rw[getElem!_pos z (i%z.size) hlt];exact List.all_eq_true.1 h _ (Array.getElem_mem_toList hlt)
theorem all_three {a b c:List Value}(ha:a.all nu=true)(hb:b.all nu=true)(hc:c.all nu=true):(a++(b++c)).all nu=true:=by
 rw[List.all_append,List.all_append,ha,hb,hc];rfl
theorem run_append_nu {P : Program} (w : World) (base : Nat) (t ty e : TypeId) (i : TypeInfo) (z : Value) (size bytes : Nat) (ht : P.underlying t = some (.slice e)) (hi : P.info? e = some i) (hz : i.zero = some z)
    (hsize : i.size = size) (hby : i.bytes = bytes) (hzs : z.cells.size = size) (hsz : 0 < size) (hzn : z.cells.toList.all nu = true)
    (v : Value) (n : Nat) (xs : List Value) (hown : NRow w base e size v n xs)
    (a : Addr) (m c : Nat) (hm : 0 < m) (news : List Value) (hl : news.length = m * size) (hnews : ∀ j u, news[j]? = some u → w.cell? (a.add j) = some u) (h1 : ∀ u ∈ news, u.oneCell' = true) (hnn : news.all nu = true)
    (h63 : n + m ≤ maxLen) (hbytes : (n + m) * bytes ≤ 140737488355328) (hbase : base ≤ w.heap.size) :
    ∃ v' w', (Builtin.append_ #[t, t] ty #[v, .slice (some a) m c]).run P w = .ok v' w' ∧ NRow w' base e size v' (n + m) (xs ++ news) ∧ w.grownBy w' v.ownBlock ∧ (v'.ownBlock = v.ownBlock ∨ v'.ownBlock = some w.heap.size) := by
  subst hsize
  subst hby
  obtain ⟨hown, hbox⟩ := hown
  have hsmall : n + m ≤ 9223372036854775807 := by simp only [maxLen] at h63; omega
  have hlen : (xs ++ news).length = (n + m) * i.size := by rw [List.length_append, hown.1, hl, Nat.add_mul]
  have grown : ∀ (old : Nat), old < n + m → xs.all nu = true → ∀ (row : Option Nat),
      NRow (w.drew.alloc (.cells (xs.toArray ++ news.toArray ++ Builtin.zeroCells z.cells (grownCap w (n + m) old e - (n + m))) e)) base e i.size
        (.slice (some ⟨w.heap.size, 0, none⟩) (n + m) (grownCap w (n + m) old e)) (n + m) (xs ++ news) ∧
      w.grownBy (w.drew.alloc (.cells (xs.toArray ++ news.toArray ++ Builtin.zeroCells z.cells (grownCap w (n + m) old e - (n + m))) e)) row := by
    intro old ho hxn row
    have hge := grownCap_ge w (n + m) old e
    have hcm : grownCap w (n + m) old e ≤ maxLen := grownCap_le_maxLen w (n + m) old e h63
    refine ⟨⟨⟨hlen, .inr ⟨w.heap.size, _, _, rfl, hbase, heap_alloc_new w.drew _, hge, hcm, ?_, ?_⟩⟩, fun g hg => ?_⟩, ⟨rfl, rfl, rfl, by simp, fun k hk _ => Below.heap_alloc w.drew _ k hk⟩⟩
    · simp only [Array.size_append, List.size_toArray, size_zeroCells, hzs, hown.1, hl, ← Nat.add_mul]
      congr 1
      omega
    · simp only [Array.toList_append, List.append_assoc]
      rw [← List.append_assoc, ← hlen]
      exact List.take_left
    · have hg' : w.heap.size = g := by injection hg
      subst hg'
      refine ⟨_, _, heap_alloc_new w.drew _, ?_⟩
      simp only [Array.toList_append, List.append_assoc]
      exact all_three hxn hnn (nu_zero hzn _)
  rcases hown.2 with ⟨rfl, rfl⟩ | ⟨g, cap, cur, rfl, hbg, hg, hnc, hcm, hcs, htake⟩
  · have hx : xs = [] := List.eq_nil_of_length_eq_zero (by simpa using hown.1)
    subst hx
    have hr := run_append_nil (P := P) w t ty e i z ht hi hz a m c news hl hnews (by omega) (by omega) (by have hb := hbytes; simp only [Nat.zero_add] at hb; omega)
    have hgr := grown 0 (by omega) rfl (Value.ownBlock (.slice none 0 0))
    simp only [Nat.zero_add, List.nil_append, Array.empty_append] at hgr ⊢
    exact ⟨_, _, hr, hgr.1, hgr.2, Or.inr rfl⟩
  · have hcn : cur.toList.all nu = true := by
      obtain ⟨cs, t', h2, h3⟩ := hbox g rfl
      rw [hg] at h2
      injection h2 with h2
      injection h2 with h2
      rw [h2]
      exact h3
    have hxn : xs.all nu = true := by
      rw [← htake]
      exact List.all_eq_true.2 fun x hx => List.all_eq_true.1 hcn x (List.mem_of_mem_take hx)
    by_cases hroom : n + m ≤ cap
    · have hfit : n * i.size + news.length ≤ cur.size := by rw [hl, hcs, ← Nat.add_mul]; exact Nat.mul_le_mul_right _ hroom
      have hr := run_append_room (P := P) w t ty e i ht hi g n cap cur hg a m c news hl hnews h1 hroom hfit
      refine ⟨_, _, hr, ⟨⟨hlen, .inr ⟨g, cap, _, rfl, hbg, setRow_heap w g cur _ e _ hg, hroom, hcm, ?_, ?_⟩⟩, fun g' hg' => ?_⟩, ⟨rfl, rfl, rfl, by simp, fun k _ hk => setRow_other w g k _ (fun e => hk (by simp [Value.ownBlock, e]))⟩, Or.inl rfl⟩
      · simp only [List.size_toArray, List.length_append, List.length_take, List.length_drop, Array.length_toList]
        omega
      · rw [htake, ← hlen]
        exact List.take_left
      · have hg2 : g = g' := by injection hg'
        subst hg2
        refine ⟨_, _, setRow_heap w g cur _ e _ hg, ?_⟩
        rw [List.append_assoc]
        exact all_three (List.all_eq_true.2 fun x hx => List.all_eq_true.1 hcn x (List.mem_of_mem_take hx)) hnn (List.all_eq_true.2 fun x hx => List.all_eq_true.1 hcn x (List.mem_of_mem_drop hx))
    · have holds : ∀ j u, xs[j]? = some u → w.cell? ((⟨g, 0, none⟩ : Addr).add j) = some u := hown.cells (g := g) rfl
      have hr := run_append_grow (P := P) w t ty e i z ht hi hz ⟨g, 0, none⟩ n cap xs hown.1 holds a m c news hl hnews (by omega) (by omega) (growslice_fits (by omega) hbytes)
      have hgr := grown cap (by omega) hxn (Value.ownBlock (.slice (some ⟨g, 0, none⟩) n cap))
      exact ⟨_, _, hr, hgr.1, hgr.2, Or.inr rfl⟩
theorem NRow.kept {w w':World}{base:Nat}{e:TypeId}{size:Nat}{v:Value}{n:Nat}{xs:List Value}{row:Option Nat}(h:NRow w base e size v n xs)(hg:w.grownBy w' row)(hne:∀g,v.ownBlock=some g→some g≠row):NRow w' base e size v n xs:=by
 refine⟨h.1.kept hg ?_,fun g hv=> ?_⟩
 ·cases hb:v.ownBlock with
  |none=>exact .inl rfl
  |some g=>exact .inr (hne g hb)
 ·obtain⟨cs,t,h1,h2⟩:=h.2 g hv;have hlt:=(World.ownsRow.lt h.1 g hv).2;exact⟨cs,t,(hg.block g hlt (hne g hv)).trans h1,h2⟩
theorem NRow.below {w w':World}{base:Nat}{e:TypeId}{size:Nat}{v:Value}{n:Nat}{xs:List Value}(h:NRow w base e size v n xs)(q:Below w.heap.size w w'):NRow w' base e size v n xs:=h.kept (grown_of_below q) fun g _ e=>by cases e
theorem wp_appNu_op {P:Program}{o:Oper}{a:Act}{KK:Act→World→Prop}{Q:Exit→Act→World→Prop}(s x:Operand)(w:World)(base:Nat)(e:TypeId)(sz:Nat)(v:Value)(n:Nat)(xs:List Value)(news:Array Value){N sl bytes:Nat}{z:Value}(hN:N=w.heap.size)(hu:P.underlying sl=some (.slice e))(hinfo:(P.info? e).map (fun i=>(i.zero,i.size,i.bytes))=some (some z,sz,bytes))(hz:z.cells.size=sz)(hzn:z.cells.toList.all nu=true)(hpos:0<sz)(hbt:bytes≤1000)(hown:NRow w base e sz v n xs)(hb:base≤w.heap.size)(hlen:n≤1000000)(hnl:news.size=sz)(hn1:news.toList.all (·.oneCell')=true)(hnn:news.toList.all nu=true)(ho:o.op= .call {callee:= .builtin .append,args:= #[s,x],argTypes:= #[sl,sl]})(hs:a.eval s=v)(hx:a.eval x= .slice (some ⟨N,0,none⟩) 1 1)(K:∀v' w',NRow w' base e sz v' (n+1) (xs++news.toList)→w.grownBy w' v.ownBlock→Below base w w'→(v'.ownBlock=v.ownBlock∨∀g,v'.ownBlock=some g→w.heap.size≤g)→KK (a.put o.dst v') w'):o.wp P a (w.alloc (.cells news e)) KK Q:=by
 subst hN;obtain⟨i0,hi,hz0,hz1,hz2⟩:=info_parts hinfo;have hsz:(w.alloc (.cells news e)).heap.size=w.heap.size+1:=by simp
 have hk:=Blk.new w e news;obtain⟨v',w',hr,r1,r2,r3⟩:=run_append_nu (P:=P) (w.alloc (.cells news e)) base sl o.type e i0 z sz bytes hu hi hz0 hz1 hz2 hz hpos hzn v n xs (hown.below ((Below.refl w.heap.size w).alloc ZL _)) ⟨w.heap.size,0,none⟩ 1 1 Nat.one_pos news.toList (by simpa using hnl)
  (by
   intro j u hj;rw[show(⟨w.heap.size,0,none⟩:Addr).add j=⟨w.heap.size,j,none⟩ by simp[Addr.add];exact fun e=>e.symm,hk.cell j,←hj];simp)
  (fun u hu=>List.all_eq_true.1 hn1 u hu) hnn (by unfold maxLen;omega) (Nat.le_trans (Nat.mul_le_mul_left _ hbt) (by omega)) (by rw[hsz];omega)
 unfold Oper.wp execOp;simp only[ho,resolve,invoke,builtin,Sem.run_bind,Sem.run_pure,Result.andThen_ok,List.map_toArray,List.map_cons,List.map_nil,hs,hx,hr];have hg:w.grownBy w' v.ownBlock:=⟨r2.os,r2.tape,r2.output,by have:=r2.size;rw[hsz]at this;omega,fun k hk hne=>by
  rw[r2.block k (by rw[hsz];omega) hne];exact Below.heap_alloc w _ k hk⟩
 have hat:v'.ownBlock=v.ownBlock∨∀g,v'.ownBlock=some g→w.heap.size≤g:=by
  rcases r3 with r3|r3
  ·exact Or.inl r3
  ·refine Or.inr fun g e=> ?_;rw[r3,hsz]at e;injection e with e;omega
 exact K v' w' r1 hg ((Below.refl base w).grown hg hb (fun k hk=>(World.ownsRow.lt hown.1 k hk).1)) hat
theorem wp_appNu {P:Program}{ops:Array Oper}{rest:List Oper}{o:Oper}{a:Act}{Q:Exit→Act→World→Prop}(s x:Operand)(w:World)(base:Nat)(e:TypeId)(sz:Nat)(v:Value)(n:Nat)(xs:List Value)(news:Array Value){N sl bytes:Nat}{z:Value}(hN:N=w.heap.size)(hu:P.underlying sl=some (.slice e))(hinfo:(P.info? e).map (fun i=>(i.zero,i.size,i.bytes))=some (some z,sz,bytes))(hz:z.cells.size=sz)(hzn:z.cells.toList.all nu=true)(hpos:0<sz)(hbt:bytes≤1000)(hown:NRow w base e sz v n xs)(hb:base≤w.heap.size)(hlen:n≤1000000)(hnl:news.size=sz)(hn1:news.toList.all (·.oneCell')=true)(hnn:news.toList.all nu=true)(hw:Region.wanted o (yielded ops a.tmps)=true)(ho:o.op= .call {callee:= .builtin .append,args:= #[s,x],argTypes:= #[sl,sl]})(hs:a.eval s=v)(hx:a.eval x= .slice (some ⟨N,0,none⟩) 1 1)(K:∀v' w',NRow w' base e sz v' (n+1) (xs++news.toList)→w.grownBy w' v.ownBlock→Below base w w'→(v'.ownBlock=v.ownBlock∨∀g,v'.ownBlock=some g→w.heap.size≤g)→wpList P ops Q rest (a.put o.dst v') w'):wpList P ops Q (o::rest) a (w.alloc (.cells news e)):=
 wpList_wanted hw fun KK hKK=>wp_appNu_op s x w base e sz v n xs news hN hu hinfo hz hzn hpos hbt hown hb hlen hnl hn1 hnn ho hs hx fun v' w' r1 r2 r3 r4=>hKK _ _ (K v' w' r1 r2 r3 r4)
theorem NRow.slice {w:World}{base:Nat}{e:TypeId}{size:Nat}{v:Value}{n:Nat}{xs:List Value}(h:NRow w base e size v n xs):∃A c,v= .slice A n c:=by
 rcases h.1.2 with ⟨h2,h3⟩|⟨g,cap,cur,hv,_⟩
 ·exact⟨none,0,by rw[h2,h3]⟩
 ·exact⟨_,_,hv⟩
theorem NRow.cell {w:World}{base:Nat}{e:TypeId}{size:Nat}{A:Option Addr}{c n:Nat}{xs:List Value}(h:NRow w base e size (.slice A n c) n xs){j:Nat}{u:Value}(hj:xs[j]? =some u):∃g,A=some ⟨g,0,none⟩∧w.cell? ⟨g,j,none⟩=some u:=by
 have hc:=h.1;rcases hc.2 with ⟨h2,h3⟩|⟨g,cap,cur,hv,_⟩
 ·subst h3;have:xs=[]:=List.eq_nil_of_length_eq_zero (by rw[hc.1];simp);subst this;simp at hj
 ·injection hv with hv;subst hv;have:=hc.cells (g:=g) rfl j u hj;rw[show(⟨g,0,none⟩:Addr).add j=⟨g,j,none⟩ by simp[Addr.add];exact fun e=>e.symm]at this;exact⟨g,rfl,this⟩
theorem NRow.crow {w:World}{base:Nat}{e:TypeId}{A:Option Addr}{c n:Nat}{xs:List Value}{f:Nat→Value}(h:NRow w base e 1 (.slice A n c) n xs)(hf:∀j,j<n→xs[j]? =some (f j)):CRow w A n f:=fun j hj=>by
 obtain⟨g,rfl,h2⟩:=h.cell (hf j hj);exact⟨g,0,rfl,by rw[Nat.zero_add];exact h2⟩
def QOwn (w:World)(base:Nat)(v:Value)(l:List Rat):Prop:=∃xs,NRow w base 72 4 v l.length xs∧∀j,j<l.length→∃A c B d,xs[j*4]? =some (.bool (sN (l.getD j 0).num))∧xs[j*4+1]? =some (.slice A (sD (l.getD j 0).num).length c)∧xs[j*4+2]? =some (.bool false)∧
 xs[j*4+3]? =some (.slice B (dig (l.getD j 0).den).length d)∧QR w A c B d (l.getD j 0)
theorem QOwn.nil (w:World)(base:Nat):QOwn w base (.slice none 0 0) []:=⟨[],NRow.nil _ _ _ _,fun j hj=>absurd hj (Nat.not_lt_zero _)⟩
theorem QOwn.kept {w w':World}{base:Nat}{v:Value}{l:List Rat}{S:Nat→Prop}(h:QOwn w base v l)(k:Stp S w w')(hn:∀g,v.ownBlock=some g→¬S g):QOwn w' base v l:=by
 obtain⟨xs,h1,h2⟩:=h;refine⟨xs,?_,fun j hj=> ?_⟩
 ·refine⟨?_,fun g hv=> ?_⟩
  ·refine⟨h1.1.1,?_⟩;rcases h1.1.2 with hn'|⟨g,cap,cur,rfl,hb,hgg,rest⟩
   ·exact .inl hn'
   ·exact .inr ⟨g,cap,cur,rfl,hb,(k.block g (Array.getElem?_eq_some_iff.1 hgg).1 (hn g rfl)).trans hgg,rest⟩
  ·exact(h1.2 g hv).stp k (hn g hv)
 ·obtain⟨A,c,B,d,e1,e2,e3,e4,e5⟩:=h2 j hj;exact⟨A,c,B,d,e1,e2,e3,e4,e5.stp k⟩
theorem QOwn.below {w w':World}{base:Nat}{v:Value}{l:List Rat}(h:QOwn w base v l)(q:Below w.heap.size w w'):QOwn w' base v l:=h.kept (S:=fun _=>False) (Stp.of q) fun _ _ e=>e
theorem QOwn.slice {w:World}{base:Nat}{v:Value}{l:List Rat}(h:QOwn w base v l):∃A c,v= .slice A l.length c:=by
 obtain⟨xs,h1,_⟩:=h;exact h1.slice
theorem QOwn.row {w:World}{base:Nat}{A:Option Addr}{c:Nat}{l:List Rat}(h:QOwn w base (.slice A l.length c) l):QRow w A l:=fun j hj=>by
 obtain⟨xs,h1,h2⟩:=h;obtain⟨A',c',B',d',e1,e2,e3,e4,e5⟩:=h2 j hj;obtain⟨g,rfl,k1⟩:=h1.cell e1;obtain⟨g2,hg2,k2⟩:=h1.cell e2;obtain⟨g3,hg3,k3⟩:=h1.cell e3;obtain⟨g4,hg4,k4⟩:=h1.cell e4;cases hg2;cases hg3;cases hg4;refine⟨g,0,rfl,A',c',B',d',?_,?_,?_,?_,e5⟩
 ·rw[Nat.zero_add];exact k1
 ·rw[Nat.zero_add];exact k2
 ·rw[Nat.zero_add];exact k3
 ·rw[Nat.zero_add];exact k4
theorem QOwn.box {w:World}{base:Nat}{v:Value}{l:List Rat}(h:QOwn w base v l):∀g,v.ownBlock=some g→base≤g∧Box w g:=fun g hg=>by
 obtain⟨xs,h1,_⟩:=h;exact⟨(World.ownsRow.lt h1.1 g hg).1,h1.2 g hg⟩
theorem QOwn.push {w w':World}{base:Nat}{v v':Value}{l:List Rat}{q:Rat}{A:Option Addr}{c:Nat}{B:Option Addr}{d:Nat}{xs:List Value}(h2:∀j,j<l.length→∃A c B d,xs[j*4]? =some (.bool (sN (l.getD j 0).num))∧xs[j*4+1]? =some (.slice A (sD (l.getD j 0).num).length c)∧xs[j*4+2]? =some (.bool false)∧xs[j*4+3]? =some (.slice B (dig (l.getD j 0).den).length d)∧QR w A c B d (l.getD j 0))(hq:QR w A c B d q)(hn:NRow w base 72 4 v l.length xs)(h3:NRow w' base 72 4 v' (l.length+1) (xs++(qcs q A c B d).toList))(hg:w.grownBy w' v.ownBlock):QOwn w' base v' (l++[q]):=by
 have hxl:xs.length=l.length*4:=hn.1.1;have up:∀{A c B d q},QR w A c B d q→QR w' A c B d q:=fun{A c B d q} h=>by
  cases hb:v.ownBlock with
  |none=>
   rw[hb]at hg;exact h.stp (S:=fun _=>False) ⟨hg.os,hg.tape,hg.output,hg.size,fun k hk _=>hg.block k hk (by simp),fun r=>Rd.below r ⟨hg.os,hg.tape,hg.output,hg.size,fun k hk=>hg.block k hk (by simp)⟩ ZL⟩
  |some g=>
   rw[hb]at hg;exact h.boxed (hn.2 g hb) hg
 refine⟨_,by rw[List.length_append];exact h3,fun j hj=> ?_⟩;rw[List.length_append,List.length_singleton]at hj;by_cases hjl:j<l.length
 ·obtain⟨A',c',B',d',e1,e2,e3,e4,e5⟩:=h2 j hjl;have hl:(l++[q]).getD j 0=l.getD j 0:=by rw[gE,List.getElem?_append_left hjl,←gE]
  rw[hl];refine⟨A',c',B',d',?_,?_,?_,?_,up e5⟩
  ·rw[List.getElem?_append_left (by omega)];exact e1
  ·rw[List.getElem?_append_left (by omega)];exact e2
  ·rw[List.getElem?_append_left (by omega)];exact e3
  ·rw[List.getElem?_append_left (by omega)];exact e4
 ·have hjj:j=l.length:=by omega
  subst hjj;have hl:(l++[q]).getD l.length 0=q:=by rw[gE,List.getElem?_append_right ZL,Nat.sub_self];rfl
  rw[hl];refine⟨A,c,B,d,?_,?_,?_,?_,up hq⟩
  ·rw[List.getElem?_append_right (by omega),hxl,Nat.sub_self];rfl
  ·rw[List.getElem?_append_right (by omega),hxl,Nat.add_sub_cancel_left];rfl
  ·rw[List.getElem?_append_right (by omega),hxl,Nat.add_sub_cancel_left];rfl
  ·rw[List.getElem?_append_right (by omega),hxl,Nat.add_sub_cancel_left];rfl
theorem info_ratz:(Tryz.prog.info? 72).map (fun i=>(i.zero,i.size,i.bytes))=some (some (.agg z4),4,64):=by kernel_rfl
theorem wp_appQ_op {o:Oper}{a:Act}{KK:Act→World→Prop}{Q:Exit→Act→World→Prop}(s x:Operand)(w:World)(base:Nat)(v:Value)(l:List Rat)(q:Rat)(A:Option Addr)(c:Nat)(B:Option Addr)(d:Nat){N sl:Nat}(hN:N=w.heap.size)(hu:Tryz.prog.underlying sl=some (.slice 72))(hown:QOwn w base v l)(hq:QR w A c B d q)(hb:base≤w.heap.size)(hlen:l.length≤1000000)(ho:o.op= .call {callee:= .builtin .append,args:= #[s,x],argTypes:= #[sl,sl]})(hs:a.eval s=v)(hx:a.eval x= .slice (some ⟨N,0,none⟩) 1 1)(K:∀v' w',QOwn w' base v' (l++[q])→w.grownBy w' v.ownBlock→Below base w w'→(v'.ownBlock=v.ownBlock∨∀g,v'.ownBlock=some g→w.heap.size≤g)→KK (a.put o.dst v') w'):o.wp Tryz.prog a (w.alloc (.cells (qcs q A c B d) 72)) KK Q:=by
 obtain⟨xs,h1,h2⟩:=hown;exact wp_appNu_op s x w base 72 4 v l.length xs (qcs q A c B d) hN hu info_ratz rfl rfl (by decide) (by decide) h1 hb hlen rfl rfl rfl ho hs hx fun v' w' r1 r2 r3 r4=>K v' w' (QOwn.push h2 hq h1 r1 r2) r2 r3 r4
theorem wp_appQ {ops:Array Oper}{rest:List Oper}{o:Oper}{a:Act}{Q:Exit→Act→World→Prop}(s x:Operand)(w:World)(base:Nat)(v:Value)(l:List Rat)(q:Rat)(A:Option Addr)(c:Nat)(B:Option Addr)(d:Nat){N sl:Nat}(hN:N=w.heap.size)(hu:Tryz.prog.underlying sl=some (.slice 72))(hown:QOwn w base v l)(hq:QR w A c B d q)(hb:base≤w.heap.size)(hlen:l.length≤1000000)(hw:Region.wanted o (yielded ops a.tmps)=true)(ho:o.op= .call {callee:= .builtin .append,args:= #[s,x],argTypes:= #[sl,sl]})(hs:a.eval s=v)(hx:a.eval x= .slice (some ⟨N,0,none⟩) 1 1)(K:∀v' w',QOwn w' base v' (l++[q])→w.grownBy w' v.ownBlock→Below base w w'→(v'.ownBlock=v.ownBlock∨∀g,v'.ownBlock=some g→w.heap.size≤g)→wpList Tryz.prog ops Q rest (a.put o.dst v') w'):wpList Tryz.prog ops Q (o::rest) a (w.alloc (.cells (qcs q A c B d) 72)):=
 wpList_wanted hw fun KK hKK=>wp_appQ_op s x w base v l q A c B d hN hu hown hq hb hlen ho hs hx fun v' w' r1 r2 r3 r4=>hKK _ _ (K v' w' r1 r2 r3 r4)
end Go.Proofs.YtecfcjdgmpopjaaGreat

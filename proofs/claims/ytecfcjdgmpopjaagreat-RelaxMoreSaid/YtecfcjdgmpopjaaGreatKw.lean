import Derived.Test.YtecfcjdgmpopjaaGreatKv
import Derived.Deep.CutBlock
import Derived.Deep.DeepCutAuto
set_option maxHeartbeats 16000000
set_option maxRecDepth 100000
set_option linter.unusedSimpArgs false
set_option linter.unusedVariables false
namespace Go.Proofs.YtecfcjdgmpopjaaGreat
open Go.RowKit Num
def stopS (a:Rat)(y:Vr)(c:Option Bk)(i v:Nat):Option (Option Bk):=
 if 0<a then(match y.hi with
  |none=>some c
  |some h=>(subO h y.v).bind fun d=>(divO d a).map fun q=>nearS c q (some i) v)
 else if a<0 then(match y.lo with
  |none=>some c
  |some h=>(subO h y.v).bind fun d=>(divO d a).map fun q=>nearS c q (some i) v)
 else some c
theorem stopL_step (b:Tb)(k:Nat)(up:Bool)(i:Nat)(c:Option Bk)(l:List Rat)(ls:List (List Rat))(v:Nat)(vs:List Nat):
 stopL b k up i c (l::ls) (v::vs)=(stopS (if up then l.getD k 0 else-(l.getD k 0)) (b.var v) c i v).bind fun c'=>stopL b k up (i+1) c' ls vs:=rfl
theorem map_s {α β:Type}{o:Option α}{f:α→β}{a:α}(h:o=some a):o.map f=some (f a):=by rw[h];rfl
theorem map_n {α β:Type}{o:Option α}{f:α→β}(h:o=none):o.map f=none:=by rw[h];rfl
theorem bind_maps {α β γ:Type}{o:Option α}{f:α→Option β}{g:β→γ}{b:β}(h:o.bind f=some b):(o.bind fun d=>(f d).map g)=some (g b):=by
 cases o with
 |none=>cases h
 |some a=>exact map_s h
theorem sgn_pos {a:Rat}(h:sgnQ a=1):0<a:=of_decide_eq_true ((sgn_dec a).1.symm.trans (by rw[h];rfl))
theorem sgn_neg {a:Rat}(h:sgnQ a= -1):a<0:=of_decide_eq_true ((sgn_dec a).2.symm.trans (by rw[h];rfl))
theorem sgn_zero {a:Rat}(h:sgnQ a=0):¬0<a∧¬a<0:=⟨of_decide_eq_false ((sgn_dec a).1.symm.trans (by rw[h];rfl)),of_decide_eq_false ((sgn_dec a).2.symm.trans (by rw[h];rfl))⟩
def BkV (w:World)(v:Value):Option Bk→Prop
 |none=>v= .agg bk0
 |some k=>∃A c B d,v= .agg (bkC k A c B d)∧QR w A c B d k.far
theorem stops_any {w:World}{d:Ad}{b:Tb}{k:Nat}{up:Bool}(h:TAt tyT w d b)(hw:Wf b)(hk:k<b.free.length):Calls Tryz.prog 185 #[vptr d.t0,iv6 k,.bool up] w fun e w'=>Below w.heap.size w w'∧((∃c v,stopsT b k up=some c∧e= .returned v∧BkV w' v c)∨(stopsT b k up=none∧ThrewX e)):=by
 have HT:=ZH h;have HW:=ZH hw;obtain⟨h0,h1,h2,h3,h4,h5,h6⟩:=h.head.seven;have hvlt:=hw.fv k hk;obtain⟨gF,oF,hFA,cj⟩:=h.fr k hk;obtain⟨gV,oV,hVA,cv⟩:=h.vp _ hvlt;rw[hFA]at h3;rw[hVA]at h1;obtain⟨R,hR⟩:∃R,stopsT b k up=R:=⟨_,rfl⟩;rw[hR];have hst:=hw.st;have hbt:=hw.bt;have hbt1:b.basic.length≤b.t.length:=by omega
 have hbt2:b.t.length≤b.basic.length:=by omega
 obtain⟨v,hvg⟩:∃v,b.free.getD k 0=v:=⟨_,rfl⟩;have HR0:Hid (R=(if up then(match (b.var v).hi with|none=>some none|some h=>(subO h (b.var v).v).map fun q=>nearS none q none v) else(match (b.var v).lo with|none=>some none|some l=>(subO (b.var v).v l).map fun q=>nearS none q none v)).bind fun c=>stopL b k up 0 c b.t b.basic):=by
  show _=_;rw[←hR,←hvg];rfl
 have HVA:=ZH hVA;have V1:=Lk.of h1;have V2:=Lk.of h2;have V3:=Lk.of h3;have V4:=Lk.of h4;have CF:Lk w gF (oF+k) (iv6 v):=by rw[←hvg];exact Lk.of cj
 have CV:Lk w gV (oV+v) (vptr (d.vs.getD v 0)):=by rw[←hvg];exact Lk.of cv
 rw[hvg]at hvlt;have hva:=h.vr _ hvlt;clear hR hFA hVA h0 h1 h2 h3 h4 h5 h6 hbt hw hvg cj cv h;generalize d.F.2=cF at*;obtain⟨g,hg⟩:∃g,d.vs.getD v 0=g:=⟨_,rfl⟩;rw[hg]at CV hva;clear hg;generalize b.var v=x at*;obtain⟨lo,hi,xv⟩:=x;obtain⟨hlo,hhi,hxv⟩:=hva;obtain⟨A3,c3,B3,d3,x1,x2,x3,x4,hx⟩:=hxv;have X1:=Lk.of x1;have X2:=Lk.of x2;have X3:=Lk.of x3;have X4:=Lk.of x4;have HX:=ZH hx;have HLO:=ZH hlo;have HHI:=ZH hhi;clear x1 x2 x3 x4 hx hlo hhi;dsimp only at HR0;have M:=((Mem.start w).new 226 bk0).newAt (g:=w.heap.size+1) (by simp) 226 bk0;go_enter Tryz.func185,Tryz.ntmps185;go_upto_region 2 with fail;refine region_st (n:=14) (frame:= ?frame1) (fun jK=>[kP d.t0 0,kP d.t0 0,kP d.t0 1,kF (.slice (some ⟨gV,oV,none⟩) b.vars.length d.V.2),kP d.t0 0,kP d.t0 0,kP d.t0 3,kF (.slice (some ⟨gF,oF,none⟩) b.free.length cF),kI ((k:Nat)),kP gF (oF+k),kI ((v:Nat)),kP gV (oV+v),kP g 0,kP g 0].getD jK .none) [] (by kernel_rfl) (by kernel_rfl) (by kernel_rfl) rfl M (fun _ h=>by cases h) (fun _ h=>by cases h) ?_ ?_ ?_
 case refine_1=>
  intro s;simp only[fr,Act.put,zA,zB,zC,zD,zE,zF,Nat.reduceAdd];rfl
 case refine_2=>
  iterate 14 (refine SN ?_ ?_;rotate_left)
  exact Steps.nil;all_goals (intro L s w9 hN hU hi hS K hK;dsimp only at hK⊢;simp only[Act.put,zD,zE,zF]at hK)
  ·go_simp;exact hS.o hK
  ·simp only[hS.f hN 0]at hK⊢;go_simp;exact hS.o hK
  ·simp only[hS.f hN 1]at hK⊢;go_simp;exact hS.o hK
  ·simp only[hS.f hN 2]at hK⊢;have u0:=V1 _ hS.mem.bel;go_simp;exact hS.o hK
  ·go_simp;exact hS.o hK
  ·simp only[hS.f hN 4]at hK⊢;go_simp;exact hS.o hK
  ·simp only[hS.f hN 5]at hK⊢;go_simp;exact hS.o hK
  ·simp only[hS.f hN 6]at hK⊢;have u0:=V3 _ hS.mem.bel;go_simp;exact hS.o hK
  ·go_simp;exact hS.o hK
  ·simp only[hS.f hN 7,hS.f hN 8]at hK⊢;go_simp;exact hS.o hK
  ·simp only[hS.f hN 9]at hK⊢;have u0:=CF _ hS.mem.bel;go_simp;exact hS.o hK
  ·simp only[hS.f hN 3,hS.f hN 10]at hK⊢;go_simp;exact hS.o hK
  ·simp only[hS.f hN 11]at hK⊢;have u0:=CV _ hS.mem.bel;go_simp;exact hS.o hK
  ·simp only[hS.f hN 12]at hK⊢;go_simp;exact hS.o hK
 intro L s w9 hall hS;have e9:=hS.fx 13 rfl rfl (hall 13 (by decide));replace M:=hS.mem;simp only[e9];clear hS hall e9;go_upto_block 0 with fail;go_cut [] (fun wx=>∃c,Hid (R=stopL b k up 0 c (b.t.drop 0) (b.basic.drop 0))∧Below w.heap.size w wx∧Blk wx w.heap.size 226 bk0∧BkAt wx (w.heap.size+1) c)
 case first=>
  cases up with
  |true=>
   cases hi with
   |none=>
    have S0:w9.cell? ⟨g,5,none⟩=some (.bool false):=Lk.of HHI.out _ M.bel;have HR:Hid (R=(some none:Option (Option Bk)).bind fun c=>stopL b k true 0 c b.t b.basic):=HR0;have HC:Hid (R=stopL b k true 0 none (b.t.drop 0) (b.basic.drop 0)):=HR.out;have hb9:=M.k (i:=0) rfl;have hz9:=M.k (i:=1) rfl;have hq9:=M.bel;go_wp2_with fail;go_meet;exact⟨none,HC.out,hq9,hz9,hb9⟩
   |some hv=>
    obtain⟨hs,A5,c5,B5,d5,y1,y2,y3,y4,hy⟩:=HHI.out;have S0:w9.cell? ⟨g,5,none⟩=some (.bool true):=Lk.of hs _ M.bel;have Y1:=Lk.of y1;have Y2:=Lk.of y2;have Y3:=Lk.of y3;have Y4:=Lk.of y4;have HY:=ZH hy;have HR:Hid (R=((subO hv xv).map fun q=>nearS none q none v).bind fun c=>stopL b k true 0 c b.t b.basic):=HR0;clear hs y1 y2 y3 y4 hy HR0;go_upto_region 4 with fail;refine region_tail (n:=17) (frame:= ?frame2) (fun jK=>[kP g 0,kP g 0,kP g 5,kP g 6,kF (qv hv A5 c5 B5 d5),kP g 0,kP g 0,kP g 10,kF (qv xv A3 c3 B3 d3),.val (Sh.rq (subO hv xv)),kP d.t0 0,kP d.t0 0,kP d.t0 3,kF (.slice (some ⟨gF,oF,none⟩) b.free.length cF),kI ((k:Nat)),kP gF (oF+k),kI ((v:Nat))].getD jK .none) (fun s' w'=>∃q9,subO hv xv=some q9∧BkAt w' (w.heap.size+1) (nearS none q9 none v)∧Stp (fun b=>b=w.heap.size+1) w9 w') _ (by kernel_rfl) (by kernel_rfl) (by kernel_rfl) rfl rfl (by kernel_rfl) M.rebase ?_ ?_ ?_ ?_
    case refine_1=>
     intro s;simp only[fr,Act.put,zA,zB,zC,zD,zE,zF,Nat.reduceAdd];rfl
    case refine_2=>
     iterate 17 (refine SN ?_ ?_;rotate_left)
     exact Steps.nil;all_goals (intro L s w9 hN hU hi hS K hK;dsimp only at hK⊢;simp only[Act.put,zD,zE,zF]at hK)
     ·go_simp;exact hS.o hK
     ·simp only[hS.f hN 0]at hK⊢;go_simp;exact hS.o hK
     ·simp only[hS.f hN 1]at hK⊢;go_simp;exact hS.o hK
     ·simp only[hS.f hN 2]at hK⊢;go_simp;exact hS.o hK
     ·simp only[hS.f hN 3]at hK⊢;have u1:=Y1 _ (bT M.bel hS.mem.bel);have u2:=Y2 _ (bT M.bel hS.mem.bel);have u3:=Y3 _ (bT M.bel hS.mem.bel);have u4:=Y4 _ (bT M.bel hS.mem.bel);go_simp;exact hS.o hK
     ·go_simp;exact hS.o hK
     ·simp only[hS.f hN 5]at hK⊢;go_simp;exact hS.o hK
     ·simp only[hS.f hN 6]at hK⊢;go_simp;exact hS.o hK
     ·simp only[hS.f hN 7]at hK⊢;have u1:=X1 _ (bT M.bel hS.mem.bel);have u2:=X2 _ (bT M.bel hS.mem.bel);have u3:=X3 _ (bT M.bel hS.mem.bel);have u4:=X4 _ (bT M.bel hS.mem.bel);go_simp;exact hS.o hK
     ·simp only[hS.f hN 4,hS.f hN 8]at hK⊢;go_simp;go_at_call 120;refine(psub_any (HY.out.below (bT M.bel hS.mem.bel)) (HX.out.below (bT M.bel hS.mem.bel))).mono ?_;rintro e9 w10 ⟨q,⟨q9,A9,c9,B9,d9,ho9,rfl,hq9⟩|⟨ho9,v9,rfl⟩⟩
      ·exact hK.out _ _ (hS.val rfl (nSo rfl) q ⟨q9,A9,c9,B9,d9,ho9,rfl,hq9⟩)
      ·exact⟨rfl,bT (bT M.bel hS.mem.bel) q,.inr ⟨HR.out.trans (bind_n (map_n ho9)),v9,rfl⟩⟩
     ·go_simp;exact hS.o hK
     ·simp only[hS.f hN 10]at hK⊢;go_simp;exact hS.o hK
     ·simp only[hS.f hN 11]at hK⊢;go_simp;exact hS.o hK
     ·simp only[hS.f hN 12]at hK⊢;have u0:=V3 _ (bT M.bel hS.mem.bel);go_simp;exact hS.o hK
     ·go_simp;exact hS.o hK
     ·simp only[hS.f hN 13,hS.f hN 14]at hK⊢;go_simp;exact hS.o hK
     ·simp only[hS.f hN 15]at hK⊢;have u0:=CF _ (bT M.bel hS.mem.bel);go_simp;exact hS.o hK
    case refine_3=>
     intro L s w9 hall hS K hK;dsimp only at hK⊢;simp only[Act.put,zD,zE,zF]at hK;obtain⟨q9,A9,c9,B9,d9,o9,e9,h9⟩:=hS.val_at 9 rfl (by decide) (hall 9 (by decide));simp only[e9]at hK⊢;simp only[hS.fx 16 rfl rfl (hall 16 (by decide))]at hK⊢;refine ite_of rfl ?_;go_simp;go_at_call 204;refine(near_any (c:=none) (line:=none) (v:=v) (hS.mem.k (i:=0) rfl) h9).mono ?_;rintro e9 w10 ⟨rfl,hs9,hb9⟩;exact hK.out _ _ ⟨_,o9,hb9,(Stp.of hS.mem.bel).trans hs9⟩
    intro s w9 hR;obtain⟨q9,ho9,hb9,hs9⟩:=hR;have hz9:=Blk.stp (M.k (i:=1) rfl) hs9 (by omega);have HC:Hid (R=stopL b k true 0 (nearS none q9 none v) (b.t.drop 0) (b.basic.drop 0)):=HR.out.trans (by rw[ho9];rfl);have hq9:=hs9.below M.bel M.bel.size (fun k hk=>by omega);go_wp2_with fail;go_meet;exact⟨_,HC.out,hq9,hz9,hb9⟩
  |false=>
   cases lo with
   |none=>
    have S0:w9.cell? ⟨g,0,none⟩=some (.bool false):=Lk.of HLO.out _ M.bel;have HR:Hid (R=(some none:Option (Option Bk)).bind fun c=>stopL b k false 0 c b.t b.basic):=HR0;have HC:Hid (R=stopL b k false 0 none (b.t.drop 0) (b.basic.drop 0)):=HR.out;have hb9:=M.k (i:=0) rfl;have hz9:=M.k (i:=1) rfl;have hq9:=M.bel;go_wp2_with fail;go_meet;exact⟨none,HC.out,hq9,hz9,hb9⟩
   |some hv=>
    obtain⟨hs,A5,c5,B5,d5,y1,y2,y3,y4,hy⟩:=HLO.out;have S0:w9.cell? ⟨g,0,none⟩=some (.bool true):=Lk.of hs _ M.bel;have Y1:=Lk.of y1;have Y2:=Lk.of y2;have Y3:=Lk.of y3;have Y4:=Lk.of y4;have HY:=ZH hy;have HR:Hid (R=((subO xv hv).map fun q=>nearS none q none v).bind fun c=>stopL b k false 0 c b.t b.basic):=HR0;clear hs y1 y2 y3 y4 hy HR0;go_upto_region 6 with fail;refine region_tail (n:=17) (frame:= ?frame3) (fun jK=>[kP g 0,kP g 0,kP g 10,kF (qv xv A3 c3 B3 d3),kP g 0,kP g 0,kP g 0,kP g 1,kF (qv hv A5 c5 B5 d5),.val (Sh.rq (subO xv hv)),kP d.t0 0,kP d.t0 0,kP d.t0 3,kF (.slice (some ⟨gF,oF,none⟩) b.free.length cF),kI ((k:Nat)),kP gF (oF+k),kI ((v:Nat))].getD jK .none) (fun s' w'=>∃q9,subO xv hv=some q9∧BkAt w' (w.heap.size+1) (nearS none q9 none v)∧Stp (fun b=>b=w.heap.size+1) w9 w') _ (by kernel_rfl) (by kernel_rfl) (by kernel_rfl) rfl rfl (by kernel_rfl) M.rebase ?_ ?_ ?_ ?_
    case refine_1=>
     intro s;simp only[fr,Act.put,zA,zB,zC,zD,zE,zF,Nat.reduceAdd];rfl
    case refine_2=>
     iterate 17 (refine SN ?_ ?_;rotate_left)
     exact Steps.nil;all_goals (intro L s w9 hN hU hi hS K hK;dsimp only at hK⊢;simp only[Act.put,zD,zE,zF]at hK)
     ·go_simp;exact hS.o hK
     ·simp only[hS.f hN 0]at hK⊢;go_simp;exact hS.o hK
     ·simp only[hS.f hN 1]at hK⊢;go_simp;exact hS.o hK
     ·simp only[hS.f hN 2]at hK⊢;have u1:=X1 _ (bT M.bel hS.mem.bel);have u2:=X2 _ (bT M.bel hS.mem.bel);have u3:=X3 _ (bT M.bel hS.mem.bel);have u4:=X4 _ (bT M.bel hS.mem.bel);go_simp;exact hS.o hK
     ·go_simp;exact hS.o hK
     ·simp only[hS.f hN 4]at hK⊢;go_simp;exact hS.o hK
     ·simp only[hS.f hN 5]at hK⊢;go_simp;exact hS.o hK
     ·simp only[hS.f hN 6]at hK⊢;go_simp;exact hS.o hK
     ·simp only[hS.f hN 7]at hK⊢;have u1:=Y1 _ (bT M.bel hS.mem.bel);have u2:=Y2 _ (bT M.bel hS.mem.bel);have u3:=Y3 _ (bT M.bel hS.mem.bel);have u4:=Y4 _ (bT M.bel hS.mem.bel);go_simp;exact hS.o hK
     ·simp only[hS.f hN 3,hS.f hN 8]at hK⊢;go_simp;go_at_call 120;refine(psub_any (HX.out.below (bT M.bel hS.mem.bel)) (HY.out.below (bT M.bel hS.mem.bel))).mono ?_;rintro e9 w10 ⟨q,⟨q9,A9,c9,B9,d9,ho9,rfl,hq9⟩|⟨ho9,v9,rfl⟩⟩
      ·exact hK.out _ _ (hS.val rfl (nSo rfl) q ⟨q9,A9,c9,B9,d9,ho9,rfl,hq9⟩)
      ·exact⟨rfl,bT (bT M.bel hS.mem.bel) q,.inr ⟨HR.out.trans (bind_n (map_n ho9)),v9,rfl⟩⟩
     ·go_simp;exact hS.o hK
     ·simp only[hS.f hN 10]at hK⊢;go_simp;exact hS.o hK
     ·simp only[hS.f hN 11]at hK⊢;go_simp;exact hS.o hK
     ·simp only[hS.f hN 12]at hK⊢;have u0:=V3 _ (bT M.bel hS.mem.bel);go_simp;exact hS.o hK
     ·go_simp;exact hS.o hK
     ·simp only[hS.f hN 13,hS.f hN 14]at hK⊢;go_simp;exact hS.o hK
     ·simp only[hS.f hN 15]at hK⊢;have u0:=CF _ (bT M.bel hS.mem.bel);go_simp;exact hS.o hK
    case refine_3=>
     intro L s w9 hall hS K hK;dsimp only at hK⊢;simp only[Act.put,zD,zE,zF]at hK;obtain⟨q9,A9,c9,B9,d9,o9,e9,h9⟩:=hS.val_at 9 rfl (by decide) (hall 9 (by decide));simp only[e9]at hK⊢;simp only[hS.fx 16 rfl rfl (hall 16 (by decide))]at hK⊢;refine ite_of rfl ?_;go_simp;go_at_call 204;refine(near_any (c:=none) (line:=none) (v:=v) (hS.mem.k (i:=0) rfl) h9).mono ?_;rintro e9 w10 ⟨rfl,hs9,hb9⟩;exact hK.out _ _ ⟨_,o9,hb9,(Stp.of hS.mem.bel).trans hs9⟩
    intro s w9 hR;obtain⟨q9,ho9,hb9,hs9⟩:=hR;have hz9:=Blk.stp (M.k (i:=1) rfl) hs9 (by omega);have HC:Hid (R=stopL b k false 0 (nearS none q9 none v) (b.t.drop 0) (b.basic.drop 0)):=HR.out.trans (by rw[ho9];rfl);have hq9:=hs9.below M.bel M.bel.size (fun k hk=>by omega);go_wp2_with fail;go_meet;exact⟨_,HC.out,hq9,hz9,hb9⟩
 case rest=>
  obtain⟨c0,HC0,hq0,hz0,hb0⟩:=hcut;clear HR0 M X1 X2 X3 X4 HX HLO HHI CF CV hvlt V3;obtain⟨BA,hBA⟩:∃BA,d.B.1=BA:=⟨_,rfl⟩;rw[hBA]at V2;have HBA:=ZH hBA;clear hBA;generalize d.B.2=cB at*;have h2:=V2 _ hq0;go_wp2_with fail;go_loopg [87] b.basic.length (fun z p wr=>∃(i:Nat)(c:Option Bk),z=b.basic.length-i∧i≤b.basic.length∧p= .int .i64 (i:Nat)∧Hid (R=stopL b k up i c (b.t.drop i) (b.basic.drop i))∧Below w.heap.size w wr∧Blk wr w.heap.size 226 bk0∧BkAt wr (w.heap.size+1) c)
  case atStart=>exact⟨0,c0,rfl,Nat.zero_le _,rfl,HC0.out,hq0,hz0,hb0⟩
  case round=>
   clear h2 hz0 hb0 hq0 HC0;obtain⟨i,c,hz,hi,rfl,HL,hq,hz8,hb8⟩:=hrel;by_cases hlt:i<b.basic.length
   ·have d1:decide ((i:Int)<(b.basic.length:Int))=true:=dT (by omega);have hlt2:i<b.t.length:=by omega
    have HTr:=ZH (HT.out.below hq);have HC:Hid (R=(stopS (if up then(b.t.getD i []).getD k 0 else-((b.t.getD i []).getD k 0)) (b.var (b.basic.getD i 0)) c i (b.basic.getD i 0)).bind fun c'=>stopL b k up (i+1) c' (b.t.drop (i+1)) (b.basic.drop (i+1))):=by
     show _=_;rw[HL.out,drop_at (z:=[]) hlt2,drop_at (z:=0) hlt,stopL_step]
    have hvlt:=HW.out.bv i hlt;have hkl:k<(b.t.getD i []).length:=by rw[HW.out.ft i hlt2];exact hk
    obtain⟨gB,oB,hB,cj⟩:=HTr.out.ba i hlt;rw[HBA.out]at hB;subst hB;obtain⟨gV',oV',hV,cv⟩:=HTr.out.vp _ hvlt;have h1:=V1 _ hq;have h4:=V4 _ hq;rw[show(some ⟨gV,oV,none⟩:Option Addr)=some ⟨gV',oV',none⟩ from HVA.out.symm.trans hV]at h1;obtain⟨gT,oT,hT,ct⟩:=HTr.out.tp i hlt2;rw[hT]at h4;obtain⟨gL,oL,hL,A',c',B',d2,a1,a2,a3,a4,hqa⟩:=HTr.out.tr i hlt2 k hkl;replace ct:wr.cell? ⟨gT,oT+i,none⟩=some (.slice (d.ls.getD i (none,0)).1 (b.t.getD i []).length (d.ls.getD i (none,0)).2):=ct;have hL':(d.ls.getD i (none,0)).1=some ⟨gL,oL,none⟩:=hL;rw[hL']at ct;obtain⟨v',hvg⟩:∃v',b.basic.getD i 0=v':=⟨_,rfl⟩;replace cj:wr.cell? ⟨gB,oB+i,none⟩=some (iv6 v'):=by rw[←hvg];exact cj
    have CV:Lk wr gV' (oV'+v') (vptr (d.vs.getD v' 0)):=by rw[←hvg];exact Lk.of cv
    rw[hvg]at HC hvlt;have hva:=HTr.out.vr _ hvlt;have W1:=Lk.of h1;have HA:=ZH hqa;have HQ:=ZH hq;have HZ8:=ZH hz8;have HB8:=ZH hb8;clear cv hvg h1 hqa HL hV hT hL hL' hz8 hb8;obtain⟨y,hy⟩:∃y,d.vs.getD v' 0=y:=⟨_,rfl⟩;rw[hy]at CV hva;clear hy;generalize b.var v'=yy at*;obtain⟨ylo,yhi,yv⟩:=yy;obtain⟨hlo,hhi,hxv⟩:=hva;obtain⟨A3,c3,B3,d3,x1,x2,x3,x4,hx⟩:=hxv;have X1:=Lk.of x1;have X2:=Lk.of x2;have X3:=Lk.of x3;have X4:=Lk.of x4;have HX:=ZH hx;have HLO:=ZH hlo;have HHI:=ZH hhi;clear x1 x2 x3 x4 hx hlo hhi;dsimp only at HX X1 X2 X3 X4;generalize (b.t.getD i []).getD k 0=a at*;generalize (b.t.getD i []).length=ll at*;generalize (d.ls.getD i (none,0)).2=cL at*;generalize d.T.2=cT' at*;generalize d.V.2=cV' at*;obtain⟨a',ha'⟩:∃a',(if up then a else-a)=a':=⟨_,rfl⟩;rw[ha']at HC;have M:=(Mem.start wr).new 72 z4;go_upto_if 103 with ((with_reducible refine st_ ?_);refine wP2 _ _ (M.k (i:=0) rfl) rfl rfl rfl rfl info_rat rfl rfl ?_;intro w4 b4 g4;replace M:=M.row (by omega) (by simp) rfl b4 g4;clear b4 g4);go_cut [] (fun wx=>∃A1 c1 B1 d1,Mem wr wx [(wr.heap.size,72,qcs a' A1 c1 B1 d1)] []∧QR wx A1 c1 B1 d1 a')
    case first=>
     cases up with
     |true=>
      obtain rfl:a=a':=ha';go_wp2_with fail;go_meet;exact⟨A',c',B',d2,M,HA.out.below M.bel⟩
     |false=>
      obtain rfl: -a=a':=ha';obtain⟨z1,z2,z3,z4⟩:=(M.k (i:=0) rfl).four;go_wp2_with fail;refine(pneg_any (HA.out.below M.bel)).mono ?_;rintro e w5 ⟨q5,A1,c1,B1,d1,rfl,hq1⟩;replace M:=M.below q5;have HQ1:=ZH hq1;clear hq1 z1 z2 z3 z4;go_wp2_with ((with_reducible refine st_ ?_);refine wP2 _ _ (M.k (i:=0) rfl) rfl rfl rfl rfl info_rat rfl rfl ?_;intro w6 b6 g6;have HQ6:=ZH (HQ1.out.boxed ((M.k (i:=0) rfl).box rfl) g6);replace M:=M.row (by omega) (by simp) rfl b6 g6;clear b6 g6);go_meet;exact⟨A1,c1,B1,d1,M,HQ6.out⟩
    case rest=>
     obtain⟨A1,c1,B1,d1,M,hq1⟩:=hcut;rename_i M0;have HA1:=ZH hq1;have h1:=W1 _ M.bel;have cv:=CV _ M.bel;obtain⟨z1,z2,z3,z4⟩:=(M.k (i:=0) rfl).four;clear ha' HA a1 a2 a3 a4 cj ct h4 hq1;go_wp2_with fail;refine(psign_any (p:=a') (A:=A1) (c:=c1) (B:=B1) (d:=d1)).mono ?_;rintro e w6 ⟨rfl,q6⟩;replace M:=M.below q6;have HA1:=ZH (HA1.out.below q6);clear z1 z2 z3 z4 h1 cv q6;rcases sgn_three a' with hs|hs|hs
     ·rw[hs];have hpos:=sgn_pos hs;clear hs;cases yhi with
      |none=>
       have S0:w6.cell? ⟨y,5,none⟩=some (.bool false):=Lk.of HHI.out _ M.bel;have HC1:Hid (R=(some c:Option (Option Bk)).bind fun c'=>stopL b k up (i+1) c' (b.t.drop (i+1)) (b.basic.drop (i+1))):=HC.out.trans (by unfold stopS;rw[if_pos hpos]);have HC2:Hid (R=stopL b k up (i+1) c (b.t.drop (i+1)) (b.basic.drop (i+1))):=HC1.out;have hq9:=bT HQ.out M.bel;have hz9:=HZ8.out.below M.bel ZL;have hb9:=HB8.out.below M.bel;go_wp2_with fail;go_roundg (b.basic.length-(i+1))
       case measure=>omega
       case rel=>exact⟨i+1,c,rfl,by omega,by simp,HC2.out,hq9,hz9,hb9⟩
      |some h=>
       obtain⟨hs,A5,c5,B5,d5,y1,y2,y3,y4,hy⟩:=HHI.out;have S0:w6.cell? ⟨y,5,none⟩=some (.bool true):=Lk.of hs _ M.bel;have Y1:=Lk.of y1;have Y2:=Lk.of y2;have Y3:=Lk.of y3;have Y4:=Lk.of y4;have HH:=ZH hy;have HC1:Hid (R=((subO h yv).bind fun d=>(divO d a').map fun q=>nearS c q (some i) v').bind fun c'=>stopL b k up (i+1) c' (b.t.drop (i+1)) (b.basic.drop (i+1))):=HC.out.trans (by unfold stopS;rw[if_pos hpos]);clear hs y1 y2 y3 y4 hy HC hpos;go_upto_region 16 with fail;have hb6:=ZH (HB8.out.below M.bel);have hq6:=bT HQ.out M.bel;have hz6:=ZH (HZ8.out.below M.bel ZL);refine region_tail (n:=14) (frame:= ?frame4) (fun jK=>[kP y 0,kP y 0,kP y 5,kP y 6,kF (qv h A5 c5 B5 d5),kP y 0,kP y 0,kP y 10,kF (qv yv A3 c3 B3 d3),.val (Sh.rq (subO h yv)),kF (.agg #[.bool (sN a'.num),.slice A1 (sD a'.num).length c1,.bool false,.slice B1 (dig a'.den).length d1]),.val (Sh.rq ((subO h yv).bind fun d=>divO d a')),kI ((i:Nat)),kI ((v':Nat))].getD jK .none) (fun s' w'=>∃q9,((subO h yv).bind fun d=>divO d a')=some q9∧BkAt w' (w.heap.size+1) (nearS c q9 (some i) v')∧Stp (fun b=>b=w.heap.size+1) w6 w') _ (by kernel_rfl) (by kernel_rfl) (by kernel_rfl) rfl rfl (by kernel_rfl) M.rebase ?_ ?_ ?_ ?_
       case refine_1=>
        intro s;simp only[fr,Act.put,zA,zB,zC,zD,zE,zF,Nat.reduceAdd];rfl
       case refine_2=>
        iterate 14 (refine SN ?_ ?_;rotate_left)
        exact Steps.nil;all_goals (intro L s w9 hN hU hi hS K hK;dsimp only at hK⊢;simp only[Act.put,zD,zE,zF]at hK)
        ·go_simp;exact hS.o hK
        ·simp only[hS.f hN 0]at hK⊢;go_simp;exact hS.o hK
        ·simp only[hS.f hN 1]at hK⊢;go_simp;exact hS.o hK
        ·simp only[hS.f hN 2]at hK⊢;go_simp;exact hS.o hK
        ·simp only[hS.f hN 3]at hK⊢;have u1:=Y1 _ (bT M.bel hS.mem.bel);have u2:=Y2 _ (bT M.bel hS.mem.bel);have u3:=Y3 _ (bT M.bel hS.mem.bel);have u4:=Y4 _ (bT M.bel hS.mem.bel);go_simp;exact hS.o hK
        ·go_simp;exact hS.o hK
        ·simp only[hS.f hN 5]at hK⊢;go_simp;exact hS.o hK
        ·simp only[hS.f hN 6]at hK⊢;go_simp;exact hS.o hK
        ·simp only[hS.f hN 7]at hK⊢;have u1:=X1 _ (bT M.bel hS.mem.bel);have u2:=X2 _ (bT M.bel hS.mem.bel);have u3:=X3 _ (bT M.bel hS.mem.bel);have u4:=X4 _ (bT M.bel hS.mem.bel);go_simp;exact hS.o hK
        ·simp only[hS.f hN 4,hS.f hN 8]at hK⊢;go_simp;go_at_call 120;refine(psub_any (HH.out.below (bT M.bel hS.mem.bel)) (HX.out.below (bT M.bel hS.mem.bel))).mono ?_;rintro e9 w10 ⟨q,⟨q9,A9,c9,B9,d9,ho9,rfl,hq9⟩|⟨ho9,v9,rfl⟩⟩
         ·exact hK.out _ _ (hS.val rfl (nSo rfl) q ⟨q9,A9,c9,B9,d9,ho9,rfl,hq9⟩)
         ·exact⟨rfl,bT (bT hq6 hS.mem.bel) q,.inr ⟨HC1.out.trans (bind_n (bind_n ho9)),v9,rfl⟩⟩
        ·obtain⟨u1,u2,u3,u4⟩:=(hS.mem.k (i:=0) rfl).four;go_simp;exact hS.o hK
        ·obtain⟨q9,A9,c9,B9,d9,o9,e9,h9⟩:=hS.val_at 9 rfl (by decide) (hN.out 9 rfl);simp only[e9,hS.f hN 10]at hK⊢;go_simp;go_at_call 182;refine(pdiv_any h9 (HA1.out.below hS.mem.bel)).mono ?_;rintro e9 w10 ⟨q,⟨q9,A9,c9,B9,d9,ho9,rfl,hq9⟩|⟨ho9,v9,rfl⟩⟩
         ·exact hK.out _ _ (hS.val rfl (nSo rfl) q ⟨q9,A9,c9,B9,d9,bind_s o9 ho9,rfl,hq9⟩)
         ·exact⟨rfl,bT (bT hq6 hS.mem.bel) q,.inr ⟨HC1.out.trans (bind_n (bind_sn o9 (map_n ho9))),v9,rfl⟩⟩
        iterate 2 (go_simp;exact hS.o hK)
       case refine_3=>
        intro L s w9 hall hS K hK;dsimp only at hK⊢;simp only[Act.put,zD,zE,zF]at hK;obtain⟨q11,A11,c11,B11,d11,o11,e11,h11⟩:=hS.val_at 11 rfl (by decide) (hall 11 (by decide));simp only[e11]at hK⊢;simp only[hS.fx 12 rfl rfl (hall 12 (by decide))]at hK⊢;simp only[hS.fx 13 rfl rfl (hall 13 (by decide))]at hK⊢;refine ite_of rfl ?_;go_simp;go_at_call 204;refine(near_any (c:=c) (line:=some i) (v:=v') (hb6.out.below hS.mem.bel) h11).mono ?_;rintro e9 w10 ⟨rfl,hs9,hb9⟩;exact hK.out _ _ ⟨_,o11,hb9,(Stp.of hS.mem.bel).trans hs9⟩
       intro s w9 hR;obtain⟨q9,ho9,hb9,hs9⟩:=hR;have hz9:=Blk.stp hz6.out hs9 (by omega);have HC2:Hid (R=stopL b k up (i+1) (nearS c q9 (some i) v') (b.t.drop (i+1)) (b.basic.drop (i+1))):=HC1.out.trans (by rw[bind_maps ho9];rfl);have hq9:=hs9.below hq6 hq6.size (fun k hk=>by omega);go_wp2_with fail;go_roundg (b.basic.length-(i+1))
       case measure=>omega
       case rel=>exact⟨i+1,(nearS c q9 (some i) v'),rfl,by omega,by simp,HC2.out,hq9,hz9,hb9⟩
     ·rw[hs];have hneg:=sgn_neg hs;have hnp:¬0<a':=fun h=>absurd (Std.lt_trans h hneg) Rat.lt_irrefl;clear hs;cases ylo with
      |none=>
       have S0:w6.cell? ⟨y,0,none⟩=some (.bool false):=Lk.of HLO.out _ M.bel;have HC1:Hid (R=(some c:Option (Option Bk)).bind fun c'=>stopL b k up (i+1) c' (b.t.drop (i+1)) (b.basic.drop (i+1))):=HC.out.trans (by unfold stopS;rw[if_neg hnp,if_pos hneg]);have HC2:Hid (R=stopL b k up (i+1) c (b.t.drop (i+1)) (b.basic.drop (i+1))):=HC1.out;have hq9:=bT HQ.out M.bel;have hz9:=HZ8.out.below M.bel ZL;have hb9:=HB8.out.below M.bel;go_wp2_with fail;go_roundg (b.basic.length-(i+1))
       case measure=>omega
       case rel=>exact⟨i+1,c,rfl,by omega,by simp,HC2.out,hq9,hz9,hb9⟩
      |some h=>
       obtain⟨hs,A5,c5,B5,d5,y1,y2,y3,y4,hy⟩:=HLO.out;have S0:w6.cell? ⟨y,0,none⟩=some (.bool true):=Lk.of hs _ M.bel;have Y1:=Lk.of y1;have Y2:=Lk.of y2;have Y3:=Lk.of y3;have Y4:=Lk.of y4;have HH:=ZH hy;have HC1:Hid (R=((subO h yv).bind fun d=>(divO d a').map fun q=>nearS c q (some i) v').bind fun c'=>stopL b k up (i+1) c' (b.t.drop (i+1)) (b.basic.drop (i+1))):=HC.out.trans (by unfold stopS;rw[if_neg hnp,if_pos hneg]);clear hs y1 y2 y3 y4 hy HC hneg hnp;go_upto_region 18 with fail;have hb6:=ZH (HB8.out.below M.bel);have hq6:=bT HQ.out M.bel;have hz6:=ZH (HZ8.out.below M.bel ZL);refine region_tail (n:=14) (frame:= ?frame5) (fun jK=>[kP y 0,kP y 0,kP y 0,kP y 1,kF (qv h A5 c5 B5 d5),kP y 0,kP y 0,kP y 10,kF (qv yv A3 c3 B3 d3),.val (Sh.rq (subO h yv)),kF (.agg #[.bool (sN a'.num),.slice A1 (sD a'.num).length c1,.bool false,.slice B1 (dig a'.den).length d1]),.val (Sh.rq ((subO h yv).bind fun d=>divO d a')),kI ((i:Nat)),kI ((v':Nat))].getD jK .none) (fun s' w'=>∃q9,((subO h yv).bind fun d=>divO d a')=some q9∧BkAt w' (w.heap.size+1) (nearS c q9 (some i) v')∧Stp (fun b=>b=w.heap.size+1) w6 w') _ (by kernel_rfl) (by kernel_rfl) (by kernel_rfl) rfl rfl (by kernel_rfl) M.rebase ?_ ?_ ?_ ?_
       case refine_1=>
        intro s;simp only[fr,Act.put,zA,zB,zC,zD,zE,zF,Nat.reduceAdd];rfl
       case refine_2=>
        iterate 14 (refine SN ?_ ?_;rotate_left)
        exact Steps.nil;all_goals (intro L s w9 hN hU hi hS K hK;dsimp only at hK⊢;simp only[Act.put,zD,zE,zF]at hK)
        ·go_simp;exact hS.o hK
        ·simp only[hS.f hN 0]at hK⊢;go_simp;exact hS.o hK
        ·simp only[hS.f hN 1]at hK⊢;go_simp;exact hS.o hK
        ·simp only[hS.f hN 2]at hK⊢;go_simp;exact hS.o hK
        ·simp only[hS.f hN 3]at hK⊢;have u1:=Y1 _ (bT M.bel hS.mem.bel);have u2:=Y2 _ (bT M.bel hS.mem.bel);have u3:=Y3 _ (bT M.bel hS.mem.bel);have u4:=Y4 _ (bT M.bel hS.mem.bel);go_simp;exact hS.o hK
        ·go_simp;exact hS.o hK
        ·simp only[hS.f hN 5]at hK⊢;go_simp;exact hS.o hK
        ·simp only[hS.f hN 6]at hK⊢;go_simp;exact hS.o hK
        ·simp only[hS.f hN 7]at hK⊢;have u1:=X1 _ (bT M.bel hS.mem.bel);have u2:=X2 _ (bT M.bel hS.mem.bel);have u3:=X3 _ (bT M.bel hS.mem.bel);have u4:=X4 _ (bT M.bel hS.mem.bel);go_simp;exact hS.o hK
        ·simp only[hS.f hN 4,hS.f hN 8]at hK⊢;go_simp;go_at_call 120;refine(psub_any (HH.out.below (bT M.bel hS.mem.bel)) (HX.out.below (bT M.bel hS.mem.bel))).mono ?_;rintro e9 w10 ⟨q,⟨q9,A9,c9,B9,d9,ho9,rfl,hq9⟩|⟨ho9,v9,rfl⟩⟩
         ·exact hK.out _ _ (hS.val rfl (nSo rfl) q ⟨q9,A9,c9,B9,d9,ho9,rfl,hq9⟩)
         ·exact⟨rfl,bT (bT hq6 hS.mem.bel) q,.inr ⟨HC1.out.trans (bind_n (bind_n ho9)),v9,rfl⟩⟩
        ·obtain⟨u1,u2,u3,u4⟩:=(hS.mem.k (i:=0) rfl).four;go_simp;exact hS.o hK
        ·obtain⟨q9,A9,c9,B9,d9,o9,e9,h9⟩:=hS.val_at 9 rfl (by decide) (hN.out 9 rfl);simp only[e9,hS.f hN 10]at hK⊢;go_simp;go_at_call 182;refine(pdiv_any h9 (HA1.out.below hS.mem.bel)).mono ?_;rintro e9 w10 ⟨q,⟨q9,A9,c9,B9,d9,ho9,rfl,hq9⟩|⟨ho9,v9,rfl⟩⟩
         ·exact hK.out _ _ (hS.val rfl (nSo rfl) q ⟨q9,A9,c9,B9,d9,bind_s o9 ho9,rfl,hq9⟩)
         ·exact⟨rfl,bT (bT hq6 hS.mem.bel) q,.inr ⟨HC1.out.trans (bind_n (bind_sn o9 (map_n ho9))),v9,rfl⟩⟩
        iterate 2 (go_simp;exact hS.o hK)
       case refine_3=>
        intro L s w9 hall hS K hK;dsimp only at hK⊢;simp only[Act.put,zD,zE,zF]at hK;obtain⟨q11,A11,c11,B11,d11,o11,e11,h11⟩:=hS.val_at 11 rfl (by decide) (hall 11 (by decide));simp only[e11]at hK⊢;simp only[hS.fx 12 rfl rfl (hall 12 (by decide))]at hK⊢;simp only[hS.fx 13 rfl rfl (hall 13 (by decide))]at hK⊢;refine ite_of rfl ?_;go_simp;go_at_call 204;refine(near_any (c:=c) (line:=some i) (v:=v') (hb6.out.below hS.mem.bel) h11).mono ?_;rintro e9 w10 ⟨rfl,hs9,hb9⟩;exact hK.out _ _ ⟨_,o11,hb9,(Stp.of hS.mem.bel).trans hs9⟩
       intro s w9 hR;obtain⟨q9,ho9,hb9,hs9⟩:=hR;have hz9:=Blk.stp hz6.out hs9 (by omega);have HC2:Hid (R=stopL b k up (i+1) (nearS c q9 (some i) v') (b.t.drop (i+1)) (b.basic.drop (i+1))):=HC1.out.trans (by rw[bind_maps ho9];rfl);have hq9:=hs9.below hq6 hq6.size (fun k hk=>by omega);go_wp2_with fail;go_roundg (b.basic.length-(i+1))
       case measure=>omega
       case rel=>exact⟨i+1,(nearS c q9 (some i) v'),rfl,by omega,by simp,HC2.out,hq9,hz9,hb9⟩
     ·rw[hs];obtain⟨hnp,hnn⟩:=sgn_zero hs;clear hs;have HC1:Hid (R=(some c:Option (Option Bk)).bind fun c'=>stopL b k up (i+1) c' (b.t.drop (i+1)) (b.basic.drop (i+1))):=HC.out.trans (by unfold stopS;rw[if_neg hnp,if_neg hnn]);clear hnp hnn;have HC2:Hid (R=stopL b k up (i+1) c (b.t.drop (i+1)) (b.basic.drop (i+1))):=HC1.out;have hq9:=bT HQ.out M.bel;have hz9:=HZ8.out.below M.bel ZL;have hb9:=HB8.out.below M.bel;go_wp2_with fail;go_roundg (b.basic.length-(i+1))
      case measure=>omega
      case rel=>exact⟨i+1,c,rfl,by omega,by simp,HC2.out,hq9,hz9,hb9⟩
   ·have d1:decide ((i:Int)<(b.basic.length:Int))=false:=dF (by omega);have hlt2:¬i<b.t.length:=by omega
    have HC2:Hid (R=some c):=by
     show _=_;rw[HL.out,drop_none hlt,drop_none hlt2];rfl
    have HQ:=ZH hq;clear HL;cases c with
    |none=>
     obtain⟨u0,u1,u2,u3,u4,u5,u6⟩:=Blk.seven hb8;go_wp2_with ((with_reducible refine st_ ?_);refine wP2 _ _ hz8 rfl rfl rfl rfl info_block rfl rfl ?_;intro w5 b5 g5';obtain⟨f0,f1,f2,f3,f4,f5,f6⟩:=Blk.seven b5);refine bodyPost_ret (v:= .agg bk0) (by simp[results,Tryz.results185,go_sem,f0,f1,f2,f3,f4,f5,f6]) rfl ⟨below_own HQ.out g5' ZL,.inl ⟨none,_,HC2.out,rfl,rfl⟩⟩
    |some kk=>
     obtain⟨A5,c5,B5,d5,hb8,hq8⟩:=hb8;obtain⟨u0,u1,u2,u3,u4,u5,u6⟩:=Blk.seven hb8;have HQ8:=ZH hq8;clear hq8;go_wp2_with ((with_reducible refine st_ ?_);refine wP2 _ _ hz8 rfl rfl rfl rfl info_block rfl rfl ?_;intro w5 b5 g5';obtain⟨f0,f1,f2,f3,f4,f5,f6⟩:=Blk.seven b5);refine bodyPost_ret (v:= .agg (bkC kk A5 c5 B5 d5)) (by simp[results,Tryz.results185,go_sem,f0,f1,f2,f3,f4,f5,f6]) rfl ⟨below_own HQ.out g5' ZL,.inl ⟨some kk,_,HC2.out,rfl,A5,c5,B5,d5,rfl,HQ8.out.boxed (hz8.box rfl) g5'⟩⟩
end Go.Proofs.YtecfcjdgmpopjaaGreat

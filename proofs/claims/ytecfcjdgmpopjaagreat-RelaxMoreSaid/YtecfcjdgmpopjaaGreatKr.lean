/-
  Joined texts: Kq, Kr.
-/
import Derived.Test.YtecfcjdgmpopjaaGreatKp
set_option maxHeartbeats 16000000
set_option maxRecDepth 100000
set_option linter.unusedSimpArgs false
set_option linter.unusedVariables false
namespace Go.Proofs.YtecfcjdgmpopjaaGreat
open Go.RowKit Num
theorem Box.below {w w':World}{g:Nat}(h:Box w g)(q:Below w.heap.size w w'):Box w' g:=h.stp (S:=fun _=>False) (Stp.of q) (fun e=>e)
theorem QRow.below {w w':World}{A:Option Addr}{l:List Rat}(h:QRow w A l)(q:Below w.heap.size w w'):QRow w' A l:=h.stp (S:=fun _=>False) (Stp.of q) fun _ _ e=>e
theorem set_here {α:Type}{l:List α}{done:List α}{j:Nat}{q:α}(hj:j<l.length)(hd:done.length=j):(done++l.drop j).set j q=(done++[q])++l.drop (j+1):=by
 subst hd;rw[List.set_append_right _ _ ZL,Nat.sub_self,List.drop_eq_getElem_cons hj];simp only[zE,List.append_assoc,List.singleton_append]
theorem getD_here {α:Type}{l:List α}{done:List α}{j:Nat}{z:α}(hd:done.length=j):(done++l.drop j).getD j z=l.getD j z:=by
 subst hd;rw[gE,List.getElem?_append_right ZL,Nat.sub_self,List.getElem?_drop,Nat.add_zero,←gE]
theorem layL_step (f:Rat)(k c:Nat)(x y:Rat)(l m:List Rat)(done:List Rat):(layL f k c (x::l) (y::m)).map (done++·)=(if c=k then mulO f y else(mulO f y).bind fun p=>addO x p).bind fun z=>(layL f k (c+1) l m).map ((done++[z])++·):=by
 show Option.map _ ((if c=k then mulO f y else(mulO f y).bind fun p=>addO x p).bind fun z=>(layL f k (c+1) l m).map (z::·))=_;cases (if c=k then mulO f y else(mulO f y).bind fun p=>addO x p) with
 |none=>rfl
 |some z=>
  show Option.map _ ((layL f k (c+1) l m).map (z::·))=(layL f k (c+1) l m).map ((done++[z])++·);rw[Option.map_map];congr 1;funext r;simp
theorem layL_len (f:Rat)(k:Nat):∀(l m:List Rat)(c:Nat){r:List Rat},l.length=m.length→layL f k c l m=some r→r.length=l.length
 |[],m,c,r,_,h=>by
  unfold layL at h;cases h;rfl
 |x::l,[],c,r,h0,h=>by cases h0
 |x::l,y::m,c,r,h0,h=>by
  unfold layL at h;obtain⟨z,_,h⟩:=Option.bind_eq_some_iff.1 h;obtain⟨r',h1,rfl⟩:=Option.map_eq_some_iff.1 h;rw[List.length_cons,List.length_cons,layL_len f k l m _ (by simpa using h0) h1]
theorem replace_any {w:World}{x:Value}{g o c g2 o2 c2 k:Nat}{l m:List Rat}(hl:QRow w (some ⟨g,o,none⟩) l)(hb:Box w g)(hm:QRow w (some ⟨g2,o2,none⟩) m)(hne:g≠g2)(hlm:l.length=m.length)(hk:k<l.length)(hsz:l.length≤1000):Calls Tryz.prog 203 #[x,.slice (some ⟨g,o,none⟩) l.length c,.slice (some ⟨g2,o2,none⟩) m.length c2,iv6 k] w fun e w'=>Stp (fun b=>b=g) w w'∧((∃l',layL (l.getD k 0) k 0 l m=some l'∧e= .returned (.tuple #[])∧QRow w' (some ⟨g,o,none⟩) l'∧Box w' g)∨(layL (l.getD k 0) k 0 l m=none∧ThrewX e)):=by
 have hgl:=hb.lt;have hlm1:l.length≤m.length:=by omega
 have hlm2:m.length≤l.length:=by omega
 clear hlm;obtain⟨A,c',B,d',a1,a2,a3,a4,hq⟩:=hl.at hk;have HRow0:=ZH hl;have HM0:=ZH hm;have HB0:=ZH hb;have HF0:=ZH hq;clear hl hm hb hq;generalize l.getD k 0=f at*;obtain⟨R,hR⟩:∃R,layL f k 0 l m=R:=⟨_,rfl⟩;rw[hR];have HR:Hid (R=(layL f k 0 (l.drop 0) (m.drop 0)).map (([]:List Rat)++·)):=by
  show _=_;rw[←hR];show _=Option.map (fun r=>[]++r) (layL f k 0 l m);simp
 clear hR;have M:=(Mem.start w).new 72 z4;go_enter Tryz.func203,Tryz.ntmps203;go_wp2_with ((with_reducible refine st_ ?_);refine wP2 _ _ (M.k (i:=0) rfl) rfl rfl rfl rfl info_rat rfl rfl ?_;intro w4 b4 g4;replace M:=M.row (by omega) (by simp) rfl b4 g4;clear b4 g4);have q1:=M.bel;go_loopg [16] l.length (fun z p wr=>∃(j:Nat)(done:List Rat),z=l.length-j∧j≤l.length∧p= .int .i64 (j:Nat)∧done.length=j∧Hid (R=(layL f k j (l.drop j) (m.drop j)).map (done++·))∧Hid (QRow wr (some ⟨g,o,none⟩) (done++l.drop j))∧Box wr g∧Stp (fun b=>b=g) w wr∧Blk wr w.heap.size 72 (qcs f A c' B d')∧QR wr A c' B d' f)
 case atStart=>exact⟨0,[],rfl,Nat.zero_le _,rfl,rfl,HR.out,HRow0.out.below q1,HB0.out.below q1,Stp.of q1,M.k (i:=0) rfl,HF0.out.below q1⟩
 case round=>
  clear M q1 HR HRow0 HB0 HF0 a1 a2 a3 a4;obtain⟨j,done,hk0,hj,rfl,hdl,HL,HRow,hb,hst,hk8,hf⟩:=hrel;by_cases hlt:j<l.length
  ·have d1:decide ((j:Int)<(l.length:Int))=true:=dT (by omega);have hlt2:j<m.length:=by omega
   have hj2:j<(done++l.drop j).length:=by rw[List.length_append,hdl,List.length_drop];omega
   have hne8:w.heap.size≠g:=by omega
   have HM2:=ZH (HM0.out.stp hst fun g' e=>by injection e with e;subst e;exact fun e=>hne e.symm);have HC:Hid (R=(if j=k then mulO f (m.getD j 0) else(mulO f (m.getD j 0)).bind fun p=>addO (l.getD j 0) p).bind fun z=>(layL f k (j+1) (l.drop (j+1)) (m.drop (j+1))).map ((done++[z])++·)):=by
    show _=_;rw[HL.out,drop_at (z:=0) hlt,drop_at (z:=0) hlt2,layL_step]
   have hx:=HRow.out.at hj2;rw[getD_here hdl]at hx;obtain⟨A1,c1,B1,d1',x1,x2,x3,x4,hxq⟩:=hx;obtain⟨A2,c2',B2,d2',y1,y2,y3,y4,hyq⟩:=HM2.out.at hlt2;have X1:=Lk.of x1;have X2:=Lk.of x2;have X3:=Lk.of x3;have X4:=Lk.of x4;have Y1:=Lk.of y1;have Y2:=Lk.of y2;have Y3:=Lk.of y3;have Y4:=Lk.of y4;have HX:=ZH hxq;have HY:=ZH hyq;have HBox:=ZH hb;have HStp:=ZH hst;have HF:=ZH hf;have HM:=HM2;have HTL:=ZH hdl;have M:Mem wr wr [(w.heap.size,72,qcs f A c' B d')] []:=⟨Below.refl _ _,(fun k hk=>by obtain rfl:=List.mem_singleton.1 hk;exact hk8),fun _ h=>by simp at h⟩;clear HL x1 x2 x3 x4 y1 y2 y3 y4 hxq hyq hb hst hf hk8;generalize l.getD j 0=xx at*;generalize m.getD j 0=yy at*;by_cases hjk:j=k
   ·have d2:((j:Int)==(k:Int))=true:=by simp[hjk]
    rw[if_pos hjk]at HC;clear hjk;go_upto_region 5 with fail;refine region_tail (n:=9) (frame:= ?frame1) (fun jK=>[kF (.slice (some ⟨g,o,none⟩) l.length c),kI ((j:Nat)),kF (.agg #[.bool (sN f.num),.slice A (sD f.num).length c',.bool false,.slice B (dig f.den).length d']),kF (.slice (some ⟨g2,o2,none⟩) m.length c2),kI ((j:Nat)),kP g2 (o2+j*4),kF (qv yy A2 c2' B2 d2'),.val (Sh.rq (mulO f yy)),kP g (o+j*4)].getD jK .none) (fun s' w'=>∃q9,R=(layL f k (j+1) (l.drop (j+1)) (m.drop (j+1))).map ((done++[q9])++·)∧QRow w' (some ⟨g,o,none⟩) ((done++[q9])++l.drop (j+1))∧Box w' g∧Stp (fun b=>b=g) w w'∧Blk w' w.heap.size 72 (qcs f A c' B d')∧QR w' A c' B d' f) _ (by kernel_rfl) (by kernel_rfl) (by kernel_rfl) rfl rfl (by kernel_rfl) M ?_ ?_ ?_ ?_
    case refine_1=>
     intro s;simp only[fr,Act.put,zA,zB,zC,zD,zE,zF,Nat.reduceAdd];rfl
    case refine_2=>
     iterate 9 (refine SN ?_ ?_;rotate_left)
     exact Steps.nil;all_goals (intro L s w9 hN hU hi hS K hK;dsimp only at hK⊢;simp only[Act.put,zD,zE,zF]at hK)
     iterate 2 (go_simp;exact hS.o hK)
     ·obtain⟨u1,u2,u3,u4⟩:=(hS.mem.k (i:=0) rfl).four;go_simp;exact hS.o hK
     iterate 2 (go_simp;exact hS.o hK)
     ·simp only[hS.f hN 3,hS.f hN 4]at hK⊢;go_simp;exact hS.o hK
     ·simp only[hS.f hN 5]at hK⊢;have u0:=Y1 _ hS.mem.bel;have u1:=Y2 _ hS.mem.bel;have u2:=Y3 _ hS.mem.bel;have u3:=Y4 _ hS.mem.bel;go_simp;exact hS.o hK
     ·simp only[hS.f hN 2,hS.f hN 6]at hK⊢;go_simp;go_at_call 119;refine(pmul_any (HF.out.below hS.mem.bel) (HY.out.below hS.mem.bel)).mono ?_;rintro e9 w10 ⟨q,⟨q9,A9,c9,B9,d9,ho9,rfl,hq9⟩|⟨ho9,v9,rfl⟩⟩
      ·exact hK.out _ _ (hS.val rfl (nSo rfl) q ⟨q9,A9,c9,B9,d9,ho9,rfl,hq9⟩)
      ·exact⟨rfl,HStp.out.trans ((Stp.of hS.mem.bel).trans (Stp.of q)),.inr ⟨HC.out.trans (bind_n ho9),v9,rfl⟩⟩
     ·simp only[hS.f hN 0,hS.f hN 1]at hK⊢;go_simp;exact hS.o hK
    case refine_3=>
     intro L s w9 hall hS K hK;dsimp only at hK⊢;simp only[Act.put,zD,zE,zF]at hK;simp only[hS.fx 8 rfl rfl (hall 8 (by decide))]at hK⊢;obtain⟨q7,A7,c7,B7,d7,o7,e7,h7⟩:=hS.val_at 7 rfl (by decide) (hall 7 (by decide));simp only[e7]at hK⊢;refine ite_of rfl ?_;have m9:=hS.mem;have hr9:=HRow.out.below hS.mem.bel;have hb9:=HBox.out.below hS.mem.bel;obtain⟨p1,p2,p3,p4⟩:=hr9.put hj2 hb9 h7;refine wp_store_mid _ _ _ rfl g (o+j*4) (qcs q7 A7 c7 B7 d7) rfl rfl p1 rfl (by rw[←Array.all_toList];rfl) ?_;exact hK.out undef _ ⟨q7,HC.out.trans (by rw[o7];rfl),set_here hlt hdl▸p4,p3,(HStp.out.trans (Stp.of hS.mem.bel)).trans (Stp.wrote hb9 p2 rfl),(m9.k (i:=0) rfl).turn p2 (fun e=>hne8 e),HF.out.below hS.mem.bel|>.boxed hb9 p2⟩
    intro s w9 hR;obtain⟨q9,HR9,hr9,hb9,hs9,hk9,hf9⟩:=hR;have HR9':=ZH HR9;have hr9':=ZH hr9;clear HR9 hr9 HC HRow HM HBox HStp HF M HTL HM2;go_wp2_with fail;go_roundg (l.length-(j+1))
    case measure=>omega
    case rel=>exact⟨j+1,done++[q9],rfl,by omega,by simp,by simp[hdl],HR9'.out,hr9'.out,hb9,hs9,hk9,hf9⟩
   ·have d2:((j:Int)==(k:Int))=false:=eq_boolK (by omega);rw[if_neg hjk]at HC;clear hjk;go_upto_region 6 with fail;refine region_tail (n:=14) (frame:= ?frame2) (fun jK=>[kF (.slice (some ⟨g,o,none⟩) l.length c),kI ((j:Nat)),kF (.slice (some ⟨g,o,none⟩) l.length c),kI ((j:Nat)),kP g (o+j*4),kF (qv xx A1 c1 B1 d1'),kF (.agg #[.bool (sN f.num),.slice A (sD f.num).length c',.bool false,.slice B (dig f.den).length d']),kF (.slice (some ⟨g2,o2,none⟩) m.length c2),kI ((j:Nat)),kP g2 (o2+j*4),kF (qv yy A2 c2' B2 d2'),.val (Sh.rq (mulO f yy)),.val (Sh.rq ((mulO f yy).bind fun p=>addO xx p)),kP g (o+j*4)].getD jK .none) (fun s' w'=>∃q9,R=(layL f k (j+1) (l.drop (j+1)) (m.drop (j+1))).map ((done++[q9])++·)∧QRow w' (some ⟨g,o,none⟩) ((done++[q9])++l.drop (j+1))∧Box w' g∧Stp (fun b=>b=g) w w'∧Blk w' w.heap.size 72 (qcs f A c' B d')∧QR w' A c' B d' f) _ (by kernel_rfl) (by kernel_rfl) (by kernel_rfl) rfl rfl (by kernel_rfl) M ?_ ?_ ?_ ?_
    case refine_1=>
     intro s;simp only[fr,Act.put,zA,zB,zC,zD,zE,zF,Nat.reduceAdd];rfl
    case refine_2=>
     iterate 14 (refine SN ?_ ?_;rotate_left)
     exact Steps.nil;all_goals (intro L s w9 hN hU hi hS K hK;dsimp only at hK⊢;simp only[Act.put,zD,zE,zF]at hK)
     iterate 4 (go_simp;exact hS.o hK)
     ·simp only[hS.f hN 2,hS.f hN 3]at hK⊢;go_simp;exact hS.o hK
     ·simp only[hS.f hN 4]at hK⊢;have u0:=X1 _ hS.mem.bel;have u1:=X2 _ hS.mem.bel;have u2:=X3 _ hS.mem.bel;have u3:=X4 _ hS.mem.bel;go_simp;exact hS.o hK
     ·obtain⟨u1,u2,u3,u4⟩:=(hS.mem.k (i:=0) rfl).four;go_simp;exact hS.o hK
     iterate 2 (go_simp;exact hS.o hK)
     ·simp only[hS.f hN 7,hS.f hN 8]at hK⊢;go_simp;exact hS.o hK
     ·simp only[hS.f hN 9]at hK⊢;have u0:=Y1 _ hS.mem.bel;have u1:=Y2 _ hS.mem.bel;have u2:=Y3 _ hS.mem.bel;have u3:=Y4 _ hS.mem.bel;go_simp;exact hS.o hK
     ·simp only[hS.f hN 6,hS.f hN 10]at hK⊢;go_simp;go_at_call 119;refine(pmul_any (HF.out.below hS.mem.bel) (HY.out.below hS.mem.bel)).mono ?_;rintro e9 w10 ⟨q,⟨q9,A9,c9,B9,d9,ho9,rfl,hq9⟩|⟨ho9,v9,rfl⟩⟩
      ·exact hK.out _ _ (hS.val rfl (nSo rfl) q ⟨q9,A9,c9,B9,d9,ho9,rfl,hq9⟩)
      ·exact⟨rfl,HStp.out.trans ((Stp.of hS.mem.bel).trans (Stp.of q)),.inr ⟨HC.out.trans (bind_n (bind_n ho9)),v9,rfl⟩⟩
     ·simp only[hS.f hN 5]at hK⊢;obtain⟨q11,A11,c11,B11,d11,o11,e11,h11⟩:=hS.val_at 11 rfl (by decide) (hN.out 11 rfl);simp only[e11]at hK⊢;go_simp;go_at_call 118;refine(padd_any (HX.out.below hS.mem.bel) h11).mono ?_;rintro e9 w10 ⟨q,⟨q9,A9,c9,B9,d9,ho9,rfl,hq9⟩|⟨ho9,v9,rfl⟩⟩
      ·exact hK.out _ _ (hS.val rfl (nSo rfl) q ⟨q9,A9,c9,B9,d9,bind_s o11 ho9,rfl,hq9⟩)
      ·exact⟨rfl,HStp.out.trans ((Stp.of hS.mem.bel).trans (Stp.of q)),.inr ⟨HC.out.trans (bind_n (bind_sn o11 ho9)),v9,rfl⟩⟩
     ·simp only[hS.f hN 0,hS.f hN 1]at hK⊢;go_simp;exact hS.o hK
    case refine_3=>
     intro L s w9 hall hS K hK;dsimp only at hK⊢;simp only[Act.put,zD,zE,zF]at hK;simp only[hS.fx 13 rfl rfl (hall 13 (by decide))]at hK⊢;obtain⟨q12,A12,c12,B12,d12,o12,e12,h12⟩:=hS.val_at 12 rfl (by decide) (hall 12 (by decide));simp only[e12]at hK⊢;refine ite_of rfl ?_;have m9:=hS.mem;have hr9:=HRow.out.below hS.mem.bel;have hb9:=HBox.out.below hS.mem.bel;obtain⟨p1,p2,p3,p4⟩:=hr9.put hj2 hb9 h12;refine wp_store_mid _ _ _ rfl g (o+j*4) (qcs q12 A12 c12 B12 d12) rfl rfl p1 rfl (by rw[←Array.all_toList];rfl) ?_;exact hK.out undef _ ⟨q12,HC.out.trans (by rw[o12];rfl),set_here hlt hdl▸p4,p3,(HStp.out.trans (Stp.of hS.mem.bel)).trans (Stp.wrote hb9 p2 rfl),(m9.k (i:=0) rfl).turn p2 (fun e=>hne8 e),HF.out.below hS.mem.bel|>.boxed hb9 p2⟩
    intro s w9 hR;obtain⟨q9,HR9,hr9,hb9,hs9,hk9,hf9⟩:=hR;have HR9':=ZH HR9;have hr9':=ZH hr9;clear HR9 hr9 HC HRow HM HBox HStp HF M HTL HM2;go_wp2_with fail;go_roundg (l.length-(j+1))
    case measure=>omega
    case rel=>exact⟨j+1,done++[q9],rfl,by omega,by simp,by simp[hdl],HR9'.out,hr9'.out,hb9,hs9,hk9,hf9⟩
  ·have d1:decide ((j:Int)<(l.length:Int))=false:=dF (by omega);have hlt2:¬j<m.length:=by omega
   have HC2:Hid (R=some done):=by
    show _=_;rw[HL.out,drop_none hlt,drop_none hlt2];simp[layL]
   have HR2:Hid (QRow wr (some ⟨g,o,none⟩) done):=by
    have:=HRow.out;rw[drop_none hlt,List.append_nil]at this;exact this
   clear HL HRow;go_wp2_with fail;exact⟨rfl,_,by simp[results,Tryz.results203,go_sem],hst,.inl ⟨done,HC2.out,rfl,HR2.out,hb⟩⟩
theorem moveL_step (by_:Rat)(k:Nat)(b:Tb)(l:List Rat)(ls:List (List Rat))(v:Nat)(vs:List Nat):moveL by_ k b (l::ls) (v::vs)=((mulO (l.getD k 0) by_).bind fun p=>addO (b.var v).v p).bind fun q=>moveL by_ k (b.setV v q) ls vs:=by
 show((mulO (l.getD k 0) by_).bind fun p=>(addO (b.var v).v p).bind fun q=>moveL by_ k (b.setV v q) ls vs)=_;cases mulO (l.getD k 0) by_<;>rfl
abbrev Tb.ups (b:Tb)(vs:List Vr):Tb:={b with vars:=vs}
theorem move_any {w:World}{d:Ad}{b:Tb}{k:Nat}{by_:Rat}{A B:Option Addr}{c e:Nat}(h:TAt tyT w d b)(hw:Wf b)(hk:k<b.free.length)(hq:QR w A c B e by_):Calls Tryz.prog 181 #[vptr d.t0,iv6 k,qv by_ A c B e] w fun e w'=>Stp d.S w w'∧((∃vs,vs.length=b.vars.length∧moveT b k by_=some (b.ups vs)∧e= .returned (.tuple #[])∧TAt tyT w' d (b.ups vs))∨(moveT b k by_=none∧ThrewX e)):=by
 have HT:=ZH h;have HW:=ZH hw;have HBY:=ZH hq;have hlt:=h.lt;have HLT:=ZH hlt;obtain⟨h0,h1,h2,h3,h4,h5,h6⟩:=h.head.seven;have hvlt:=hw.fv k hk;obtain⟨gF,oF,hFA,cj⟩:=h.fr k hk;obtain⟨gV,oV,hVA,cv⟩:=h.vp _ hvlt;rw[hFA]at h3;rw[hVA]at h1;have hst:=hw.st;have hbt:=hw.bt;have hbt1:b.basic.length≤b.t.length:=by omega
 have hbt2:b.t.length≤b.basic.length:=by omega
 obtain⟨R,hR⟩:∃R,moveT b k by_=R:=⟨_,rfl⟩;rw[hR];have HR:Hid (R=(addO (b.var (b.free.getD k 0)).v by_).bind fun q=>moveL by_ k (b.setV (b.free.getD k 0) q) b.t b.basic):=hR.symm;have HVA:=ZH hVA;clear hR hq hFA hVA h0 h2 h4 h5 h6 hlt hbt hw;generalize d.F.2=cF at*;generalize d.V.2=cV at*;obtain⟨v,hvg⟩:∃v,b.free.getD k 0=v:=⟨_,rfl⟩;have CF:Lk w gF (oF+k) (iv6 v):=by rw[←hvg];exact Lk.of cj
 have CV:Lk w gV (oV+v) (vptr (d.vs.getD v 0)):=by rw[←hvg];exact Lk.of cv
 have V1:=Lk.of h1;have V3:=Lk.of h3;rw[hvg]at HR hvlt;have HTr:=HT;obtain⟨A3,c3,B3,d3,x1,x2,x3,x4,hx⟩:=(HTr.out.vr _ hvlt).v;have X1:=Lk.of x1;have X2:=Lk.of x2;have X3:=Lk.of x3;have X4:=Lk.of x4;have HX:=ZH hx;clear x1 x2 x3 x4 hx;clear cj cv hvg h1 h3 h HTr;have M:=(Mem.start w).new 72 (qcs by_ A c B e);obtain⟨g,hg⟩:∃g,d.vs.getD v 0=g:=⟨_,rfl⟩;rw[hg]at CV X1 X2 X3 X4;have HG:=ZH hg;clear hg;generalize hxx:(b.var v).v=x at HX X1 X2 X3 X4 HR;clear hxx;go_enter Tryz.func181,Tryz.ntmps181;go_upto_region 1 with fail;refine region_st (n:=14) (frame:= ?frame1) (fun jK=>[kP d.t0 0,kP d.t0 0,kP d.t0 1,kF (.slice (some ⟨gV,oV,none⟩) b.vars.length cV),kP d.t0 0,kP d.t0 0,kP d.t0 3,kF (.slice (some ⟨gF,oF,none⟩) b.free.length cF),kI ((k:Nat)),kP gF (oF+k),kI ((v:Nat)),kP gV (oV+v),kP g 0,kP g 0].getD jK .none) [] (by kernel_rfl) (by kernel_rfl) (by kernel_rfl) rfl M (fun _ h=>by cases h) (fun _ h=>by cases h) ?_ ?_ ?_
 case refine_1=>
  intro s;simp only[fr,Act.put,zA,zB,zC,zD,zE,zF,Nat.reduceAdd];rfl
 case refine_2=>
  iterate 14 (refine SN ?_ ?_;rotate_left)
  exact Steps.nil;all_goals (intro L s w9 hN hU hi hS K hK;dsimp only at hK⊢;simp only[Act.put,zD,zE,zF]at hK)
  ·go_simp;exact hS.o hK
  ·simp only[hS.f hN 0]at hK⊢;go_simp;exact hS.o hK
  ·simp only[hS.f hN 1]at hK⊢;go_simp;exact hS.o hK
  ·simp only[hS.f hN 2]at hK⊢;have u0:=V1 _ hS.mem.bel;go_simp;exact hS.o hK
  ·go_simp;exact hS.o hK
  ·simp only[hS.f hN 4]at hK⊢;go_simp;exact hS.o hK
  ·simp only[hS.f hN 5]at hK⊢;go_simp;exact hS.o hK
  ·simp only[hS.f hN 6]at hK⊢;have u0:=V3 _ hS.mem.bel;go_simp;exact hS.o hK
  ·go_simp;exact hS.o hK
  ·simp only[hS.f hN 7,hS.f hN 8]at hK⊢;go_simp;exact hS.o hK
  ·simp only[hS.f hN 9]at hK⊢;have u0:=CF _ hS.mem.bel;go_simp;exact hS.o hK
  ·simp only[hS.f hN 3,hS.f hN 10]at hK⊢;go_simp;exact hS.o hK
  ·simp only[hS.f hN 11]at hK⊢;have u0:=CV _ hS.mem.bel;go_simp;exact hS.o hK
  ·simp only[hS.f hN 12]at hK⊢;go_simp;exact hS.o hK
 intro L s w9 hall hS;have e9:=hS.fx 13 rfl rfl (hall 13 (by decide));replace M:=hS.mem;simp only[e9];clear hS hall;have hgv:g<w.heap.size:=by rw[←HG.out];exact HLT.out _ ⟨_,HT.out.atV hvlt⟩
 go_upto_region 2 with fail;refine region_tail (n:=9) (frame:= ?frame2) (fun jK=>[kP g 0,kP g 0,kP g 0,kP g 10,kF (qv x A3 c3 B3 d3),kF (.agg #[.bool (sN by_.num),.slice A (sD by_.num).length c,.bool false,.slice B (dig by_.den).length e]),.val (Sh.rq (addO x by_)),kP g 0,kP g 10].getD jK .none) (fun s' w'=>∃q9,R=moveL by_ k (b.setV v q9) b.t b.basic∧Stp d.S w w'∧TAt tyT w' d (b.setV v q9)∧Blk w' w.heap.size 72 (qcs by_ A c B e)∧QR w' A c B e by_) _ (by kernel_rfl) (by kernel_rfl) (by kernel_rfl) rfl rfl (by kernel_rfl) M.rebase ?_ ?_ ?_ ?_
 case refine_1=>
  intro s;simp only[fr,Act.put,zA,zB,zC,zD,zE,zF,Nat.reduceAdd];rfl
 case refine_2=>
  iterate 9 (refine SN ?_ ?_;rotate_left)
  exact Steps.nil;all_goals (intro L s w9 hN hU hi hS K hK;dsimp only at hK⊢;simp only[Act.put,zD,zE,zF]at hK)
  iterate 2 (go_simp;exact hS.o hK)
  ·simp only[hS.f hN 1]at hK⊢;go_simp;exact hS.o hK
  ·simp only[hS.f hN 2]at hK⊢;go_simp;exact hS.o hK
  ·simp only[hS.f hN 3]at hK⊢;have u0:=X1 _ (bT M.bel hS.mem.bel);have u1:=X2 _ (bT M.bel hS.mem.bel);have u2:=X3 _ (bT M.bel hS.mem.bel);have u3:=X4 _ (bT M.bel hS.mem.bel);go_simp;exact hS.o hK
  ·obtain⟨u1,u2,u3,u4⟩:=(hS.mem.k (i:=0) rfl).four;go_simp;exact hS.o hK
  ·simp only[hS.f hN 4,hS.f hN 5]at hK⊢;go_simp;go_at_call 118;refine(padd_any (HX.out.below (bT M.bel hS.mem.bel)) (HBY.out.below (bT M.bel hS.mem.bel))).mono ?_;rintro e9 w10 ⟨q,⟨q9,A9,c9,B9,d9,ho9,rfl,hq9⟩|⟨ho9,v9,rfl⟩⟩
   ·exact hK.out _ _ (hS.val rfl (nSo rfl) q ⟨q9,A9,c9,B9,d9,ho9,rfl,hq9⟩)
   ·exact⟨rfl,Stp.of (bT (bT M.bel hS.mem.bel) q),.inr ⟨HR.out.trans (bind_n ho9),v9,rfl⟩⟩
  ·simp only[hS.f hN 0]at hK⊢;go_simp;exact hS.o hK
  ·simp only[hS.f hN 7]at hK⊢;go_simp;exact hS.o hK
 case refine_3=>
  intro L s w9 hall hS K hK;dsimp only at hK⊢;simp only[Act.put,zD,zE,zF]at hK;simp only[hS.fx 8 rfl rfl (hall 8 (by decide))]at hK⊢;obtain⟨q6,A6,c6,B6,d6,o6,e6,h6⟩:=hS.val_at 6 rfl (by decide) (hall 6 (by decide));simp only[e6]at hK⊢;refine ite_of rfl ?_;have q8:=bT M.bel hS.mem.bel;have hT9:=HT.out.below q8;have hb9:=hT9.box _ _ (hT9.atV hvlt);have P:=hT9.putV hvlt h6;have gr:=(put_q (hT9.vr _ hvlt).v hb9 h6).1;rw[HG.out]at P gr hb9;refine wp_store_mid _ _ _ rfl g 10 (qcs q6 A6 c6 B6 d6) rfl rfl P.1 rfl (by rw[←Array.all_toList];rfl) ?_;exact hK.out undef _ ⟨q6,HR.out.trans (by rw[o6];rfl),(Stp.of q8).trans P.2.1,P.2.2,(hS.mem.k (i:=0) rfl).turn gr (fun e=>by omega),(HBY.out.below q8).boxed hb9 gr⟩
 intro s w9 hR;obtain⟨q9,HR9,hs9,ht9,hk9,hb9⟩:=hR;have HR9':=ZH HR9;have HT9:=ZH ht9;obtain⟨h0,h1,h2,h3,h4,h5,h6⟩:=ht9.head.seven;have hTA:∃TA cT,w9.cell? ⟨d.t0,4,none⟩=some (.slice TA b.t.length cT):=⟨_,_,h4⟩;obtain⟨TA,cT,hTA⟩:=hTA;obtain⟨V9,hV9,hvl⟩:∃V9,b.setV v q9=b.ups V9∧V9.length=b.vars.length:=⟨_,rfl,by simp⟩;rw[hV9]at HR9' HT9;clear h0 h1 h2 h3 h4 h5 h6 ht9 HR9 HR M HX X1 X2 X3 X4 CF CV V1 V3 hV9;go_wp2_with fail;go_loopg [36] b.t.length (fun z p wr=>∃(i:Nat)(vs:List Vr),z=b.t.length-i∧i≤b.t.length∧p= .int .i64 (i:Nat)∧vs.length=b.vars.length∧Hid (R=moveL by_ k (b.ups vs) (b.t.drop i) (b.basic.drop i))∧Stp d.S w wr∧TAt tyT wr d (b.ups vs)∧Blk wr w.heap.size 72 (qcs by_ A c B e)∧QR wr A c B e by_)
 case atStart=>exact⟨0,V9,rfl,Nat.zero_le _,rfl,hvl,HR9'.out,hs9,HT9.out,hk9,hb9⟩
 case round=>
  clear hTA hk9 hb9 hs9 HT9 HR9' HBY hvl;obtain⟨i,vs,hz,hi,rfl,hvl,HL,hst,ht,hk8,hby⟩:=hrel;have HTr:=ZH ht;have HST:=ZH hst;have HBY:=ZH hby;obtain⟨h0,h1,h2,h3,h4,h5,h6⟩:=ht.head.seven;dsimp only at h1 h2 h3 h4;rw[hvl]at h1;clear h0 h3 h5 h6 ht hst hby;by_cases hlt:i<b.t.length
  ·have d1:decide ((i:Int)<(b.t.length:Int))=true:=dT (by omega);have hlt2:i<b.basic.length:=by omega
   have HC:Hid (R=((mulO ((b.t.getD i []).getD k 0) by_).bind fun p=>addO ((b.ups vs).var (b.basic.getD i 0)).v p).bind fun q=>moveL by_ k ((b.ups vs).setV (b.basic.getD i 0) q) (b.t.drop (i+1)) (b.basic.drop (i+1))):=by
    show _=_;rw[HL.out,drop_at (z:=[]) hlt,drop_at (z:=0) hlt2,moveL_step]
   have hvlt:=HW.out.bv i hlt2;have hvl2:b.basic.getD i 0<(b.ups vs).vars.length:=by show _<vs.length;omega
   have hkl:k<(b.t.getD i []).length:=by rw[HW.out.ft i hlt];exact hk
   obtain⟨gB,oB,hB,cj⟩:=HTr.out.ba i hlt2;rw[hB]at h2;obtain⟨gV',oV',hV,cv⟩:=HTr.out.vp _ hvl2;rw[hV]at h1;obtain⟨gT,oT,hT,ct⟩:=HTr.out.tp i hlt;rw[hT]at h4;obtain⟨gL,oL,hL,A',c',B',d2,a1,a2,a3,a4,hq⟩:=HTr.out.tr i hlt k hkl;replace ct:wr.cell? ⟨gT,oT+i,none⟩=some (.slice (d.ls.getD i (none,0)).1 (b.t.getD i []).length (d.ls.getD i (none,0)).2):=ct;have hL':(d.ls.getD i (none,0)).1=some ⟨gL,oL,none⟩:=hL;rw[hL']at ct;obtain⟨v',hvg⟩:∃v',b.basic.getD i 0=v':=⟨_,rfl⟩;have CB:Lk wr gB (oB+i) (iv6 v'):=by rw[←hvg];exact Lk.of cj
   have CV:Lk wr gV' (oV'+v') (vptr (d.vs.getD v' 0)):=by rw[←hvg];exact Lk.of cv
   rw[hvg]at HC hvlt hvl2;obtain⟨A3,c3,B3,d3,x1,x2,x3,x4,hx⟩:=(HTr.out.vr _ hvl2).v;have X1:=Lk.of x1;have X2:=Lk.of x2;have X3:=Lk.of x3;have X4:=Lk.of x4;have HX:=ZH hx;clear x1 x2 x3 x4 hx;have V1:=Lk.of h1;have V2:=Lk.of h2;have V4:=Lk.of h4;have CT:=Lk.of ct;have L1:=Lk.of a1;have L2:=Lk.of a2;have L3:=Lk.of a3;have L4:=Lk.of a4;have HA:=ZH hq;clear cj cv hvg h1 h2 h4 ct a1 a2 a3 a4 hq HL hB hV hT hL hL';obtain⟨y,hy⟩:∃y,d.vs.getD v' 0=y:=⟨_,rfl⟩;rw[hy]at CV X1 X2 X3 X4;have HY:=ZH hy;have hyv:y<w.heap.size:=by rw[←hy];exact HLT.out _ ⟨_,HT.out.atV hvlt⟩
   clear hy;generalize hxx:((b.ups vs).var v').v=x' at HX X1 X2 X3 X4 HC;clear hxx;generalize (b.t.getD i []).getD k 0=a at*;generalize (b.t.getD i []).length=ll at*;generalize (d.ls.getD i (none,0)).2=cL at*;generalize d.T.2=cT' at*;generalize d.B.2=cB' at*;generalize d.V.2=cV' at*;have M:Mem wr wr [(w.heap.size,72,qcs by_ A c B e)] []:=⟨Below.refl _ _,(fun k hk=>by obtain rfl:=List.mem_singleton.1 hk;exact hk8),fun _ h=>by simp at h⟩;clear hk8;go_upto_region 6 with fail;refine region_st (n:=14) (frame:= ?frame3) (fun jK=>[kP d.t0 0,kP d.t0 0,kP d.t0 1,kF (.slice (some ⟨gV',oV',none⟩) b.vars.length cV'),kP d.t0 0,kP d.t0 0,kP d.t0 2,kF (.slice (some ⟨gB,oB,none⟩) b.basic.length cB'),kI ((i:Nat)),kP gB (oB+i),kI ((v':Nat)),kP gV' (oV'+v'),kP y 0,kP y 0].getD jK .none) [] (by kernel_rfl) (by kernel_rfl) (by kernel_rfl) rfl M (fun _ h=>by cases h) (fun _ h=>by cases h) ?_ ?_ ?_
   case refine_1=>
    intro s;simp only[fr,Act.put,zA,zB,zC,zD,zE,zF,Nat.reduceAdd];rfl
   case refine_2=>
    iterate 14 (refine SN ?_ ?_;rotate_left)
    exact Steps.nil;all_goals (intro L s w9 hN hU hi hS K hK;dsimp only at hK⊢;simp only[Act.put,zD,zE,zF]at hK)
    ·go_simp;exact hS.o hK
    ·simp only[hS.f hN 0]at hK⊢;go_simp;exact hS.o hK
    ·simp only[hS.f hN 1]at hK⊢;go_simp;exact hS.o hK
    ·simp only[hS.f hN 2]at hK⊢;have u0:=V1 _ hS.mem.bel;go_simp;exact hS.o hK
    ·go_simp;exact hS.o hK
    ·simp only[hS.f hN 4]at hK⊢;go_simp;exact hS.o hK
    ·simp only[hS.f hN 5]at hK⊢;go_simp;exact hS.o hK
    ·simp only[hS.f hN 6]at hK⊢;have u0:=V2 _ hS.mem.bel;go_simp;exact hS.o hK
    ·go_simp;exact hS.o hK
    ·simp only[hS.f hN 7,hS.f hN 8]at hK⊢;go_simp;exact hS.o hK
    ·simp only[hS.f hN 9]at hK⊢;have u0:=CB _ hS.mem.bel;go_simp;exact hS.o hK
    ·simp only[hS.f hN 3,hS.f hN 10]at hK⊢;go_simp;exact hS.o hK
    ·simp only[hS.f hN 11]at hK⊢;have u0:=CV _ hS.mem.bel;go_simp;exact hS.o hK
    ·simp only[hS.f hN 12]at hK⊢;go_simp;exact hS.o hK
   intro L s w9 hall hS;have e9':=hS.fx 13 rfl rfl (hall 13 (by decide));replace M:=hS.mem;simp only[e9'];clear hS hall;go_upto_region 7 with fail;refine region_tail (n:=20) (frame:= ?frame4) (fun jK=>[kP y 0,kP y 0,kP y 0,kP y 10,kF (qv x' A3 c3 B3 d3),kP d.t0 0,kP d.t0 0,kP d.t0 4,kF (.slice (some ⟨gT,oT,none⟩) b.t.length cT'),kI ((i:Nat)),kP gT (oT+i),kF (.slice (some ⟨gL,oL,none⟩) ll cL),kI ((k:Nat)),kP gL (oL+k*4),kF (qv a A' c' B' d2),kF (.agg #[.bool (sN by_.num),.slice A (sD by_.num).length c,.bool false,.slice B (dig by_.den).length e]),.val (Sh.rq (mulO a by_)),.val (Sh.rq ((mulO a by_).bind fun p=>addO x' p)),kP y 0,kP y 10].getD jK .none) (fun s' w'=>∃q9,R=moveL by_ k ((b.ups vs).setV v' q9) (b.t.drop (i+1)) (b.basic.drop (i+1))∧Stp d.S w w'∧TAt tyT w' d ((b.ups vs).setV v' q9)∧Blk w' w.heap.size 72 (qcs by_ A c B e)∧QR w' A c B e by_) _ (by kernel_rfl) (by kernel_rfl) (by kernel_rfl) rfl rfl (by kernel_rfl) M.rebase ?_ ?_ ?_ ?_
   case refine_1=>
    intro s;simp only[fr,Act.put,zA,zB,zC,zD,zE,zF,Nat.reduceAdd];rfl
   case refine_2=>
    iterate 20 (refine SN ?_ ?_;rotate_left)
    exact Steps.nil;all_goals (intro L s w9 hN hU hi hS K hK;dsimp only at hK⊢;simp only[Act.put,zD,zE,zF]at hK)
    iterate 2 (go_simp;exact hS.o hK)
    ·simp only[hS.f hN 1]at hK⊢;go_simp;exact hS.o hK
    ·simp only[hS.f hN 2]at hK⊢;go_simp;exact hS.o hK
    ·simp only[hS.f hN 3]at hK⊢;have u0:=X1 _ (bT M.bel hS.mem.bel);have u1:=X2 _ (bT M.bel hS.mem.bel);have u2:=X3 _ (bT M.bel hS.mem.bel);have u3:=X4 _ (bT M.bel hS.mem.bel);go_simp;exact hS.o hK
    ·go_simp;exact hS.o hK
    ·simp only[hS.f hN 5]at hK⊢;go_simp;exact hS.o hK
    ·simp only[hS.f hN 6]at hK⊢;go_simp;exact hS.o hK
    ·simp only[hS.f hN 7]at hK⊢;have u0:=V4 _ (bT M.bel hS.mem.bel);go_simp;exact hS.o hK
    ·go_simp;exact hS.o hK
    ·simp only[hS.f hN 8,hS.f hN 9]at hK⊢;go_simp;exact hS.o hK
    ·simp only[hS.f hN 10]at hK⊢;have u0:=CT _ (bT M.bel hS.mem.bel);go_simp;exact hS.o hK
    ·go_simp;exact hS.o hK
    ·simp only[hS.f hN 11,hS.f hN 12]at hK⊢;go_simp;exact hS.o hK
    ·simp only[hS.f hN 13]at hK⊢;have u0:=L1 _ (bT M.bel hS.mem.bel);have u1:=L2 _ (bT M.bel hS.mem.bel);have u2:=L3 _ (bT M.bel hS.mem.bel);have u3:=L4 _ (bT M.bel hS.mem.bel);go_simp;exact hS.o hK
    ·obtain⟨u1,u2,u3,u4⟩:=(hS.mem.k (i:=0) rfl).four;go_simp;exact hS.o hK
    ·simp only[hS.f hN 14,hS.f hN 15]at hK⊢;go_simp;go_at_call 119;refine(pmul_any (HA.out.below (bT M.bel hS.mem.bel)) (HBY.out.below (bT M.bel hS.mem.bel))).mono ?_;rintro e9 w10 ⟨q,⟨q9,A9,c9,B9,d9,ho9,rfl,hq9⟩|⟨ho9,v9,rfl⟩⟩
     ·exact hK.out _ _ (hS.val rfl (nSo rfl) q ⟨q9,A9,c9,B9,d9,ho9,rfl,hq9⟩)
     ·exact⟨rfl,HST.out.trans (Stp.of (bT (bT M.bel hS.mem.bel) q)),.inr ⟨HC.out.trans (bind_n (bind_n ho9)),v9,rfl⟩⟩
    ·simp only[hS.f hN 4]at hK⊢;obtain⟨q16,A16,c16,B16,d16,o16,e16,h16⟩:=hS.val_at 16 rfl (by decide) (hN.out 16 rfl);simp only[e16]at hK⊢;go_simp;go_at_call 118;refine(padd_any (HX.out.below (bT M.bel hS.mem.bel)) h16).mono ?_;rintro e9 w10 ⟨q,⟨q9,A9,c9,B9,d9,ho9,rfl,hq9⟩|⟨ho9,v9,rfl⟩⟩
     ·exact hK.out _ _ (hS.val rfl (nSo rfl) q ⟨q9,A9,c9,B9,d9,bind_s o16 ho9,rfl,hq9⟩)
     ·exact⟨rfl,HST.out.trans (Stp.of (bT (bT M.bel hS.mem.bel) q)),.inr ⟨HC.out.trans (bind_n (bind_sn o16 ho9)),v9,rfl⟩⟩
    ·simp only[hS.f hN 0]at hK⊢;go_simp;exact hS.o hK
    ·simp only[hS.f hN 18]at hK⊢;go_simp;exact hS.o hK
   case refine_3=>
    intro L s w9 hall hS K hK;dsimp only at hK⊢;simp only[Act.put,zD,zE,zF]at hK;simp only[hS.fx 19 rfl rfl (hall 19 (by decide))]at hK⊢;obtain⟨q17,A17,c17,B17,d17,o17,e17,h17⟩:=hS.val_at 17 rfl (by decide) (hall 17 (by decide));simp only[e17]at hK⊢;refine ite_of rfl ?_;have q8:=bT M.bel hS.mem.bel;have hT9:=HTr.out.below q8;have hb9:=hT9.box _ _ (hT9.atV hvl2);have P:=hT9.putV hvl2 h17;have gr:=(put_q (hT9.vr _ hvl2).v hb9 h17).1;rw[HY.out]at P gr hb9;refine wp_store_mid _ _ _ rfl y 10 (qcs q17 A17 c17 B17 d17) rfl rfl P.1 rfl (by rw[←Array.all_toList];rfl) ?_;exact hK.out undef _ ⟨q17,HC.out.trans (by rw[o17];rfl),(HST.out.trans (Stp.of q8)).trans P.2.1,P.2.2,(hS.mem.k (i:=0) rfl).turn gr (fun e=>by omega),(HBY.out.below q8).boxed hb9 gr⟩
   intro s w9 hR;obtain⟨q9',HR9,hs9,ht9,hk9,hb9⟩:=hR;have HR9':=ZH HR9;have HT9:=ZH ht9;clear HR9 ht9 HC M HX X1 X2 X3 X4 CB CV V1 V2 V4 CT L1 L2 L3 L4;go_wp2_with fail;go_roundg (b.t.length-(i+1))
   case measure=>omega
   case rel=>exact⟨i+1,_,rfl,by omega,by simp,(by rw[List.length_set];exact hvl),HR9'.out,hs9,HT9.out,hk9,hb9⟩
  ·have d1:decide ((i:Int)<(b.t.length:Int))=false:=dF (by omega);have hlt2:¬i<b.basic.length:=by omega
   have HC2:Hid (R=some (b.ups vs)):=by
    show _=_;rw[HL.out,drop_none hlt,drop_none hlt2];rfl
   have HVL:=ZH hvl;clear HL h1 h2 h4 hvl;go_wp2_with fail;exact⟨rfl,_,by simp[results,Tryz.results181,go_sem],HST.out,.inl ⟨vs,HVL.out,HC2.out,rfl,HTr.out⟩⟩
end Go.Proofs.YtecfcjdgmpopjaaGreat

/-
  Joined texts: Ks, Kv.
-/
import Derived.Test.YtecfcjdgmpopjaaGreatKr
import Derived.BigRegion
set_option maxHeartbeats 16000000
set_option maxRecDepth 100000
set_option linter.unusedSimpArgs false
set_option linter.unusedVariables false
namespace Go.Proofs.YtecfcjdgmpopjaaGreat
open Go.RowKit Num
theorem Stp.grown {g:Nat}{w w':World}(h:Stp (fun b=>b=g) w w'):w.grownBy w' (some g):=⟨h.os,h.tape,h.output,h.size,fun k hk hne=>h.block k hk fun e=>hne (by rw[e])⟩
theorem turnL_step (a:Rat)(k c:Nat)(x:Rat)(l done:List Rat):(turnL a k c (x::l)).map (done++·)=(if c=k then divO 1 a else(divO x a).map fun q=> -q).bind fun z=>(turnL a k (c+1) l).map ((done++[z])++·):=by
 show Option.map _ ((if c=k then divO 1 a else(divO x a).map fun q=> -q).bind fun z=>(turnL a k (c+1) l).map (z::·))=_;cases (if c=k then divO 1 a else(divO x a).map fun q=> -q) with
 |none=>rfl
 |some z=>
  show Option.map _ ((turnL a k (c+1) l).map (z::·))=(turnL a k (c+1) l).map ((done++[z])++·);rw[Option.map_map];congr 1;funext r;simp
theorem layT_step (line:List Rat)(k i r:Nat)(l:List Rat)(ls done:List (List Rat)):(layT line k i r (l::ls)).map (done++·)=(if r=i then some line else layL (l.getD k 0) k 0 l line).bind fun z=>(layT line k i (r+1) ls).map ((done++[z])++·):=by
 show Option.map _ ((if r=i then some line else layL (l.getD k 0) k 0 l line).bind fun z=>(layT line k i (r+1) ls).map (z::·))=_;cases (if r=i then some line else layL (l.getD k 0) k 0 l line) with
 |none=>rfl
 |some z=>
  show Option.map _ ((layT line k i (r+1) ls).map (z::·))=(layT line k i (r+1) ls).map ((done++[z])++·);rw[Option.map_map];congr 1;funext r;simp
theorem set_same {α:Type}{l:List α}{r:Nat}{z v:α}(hr:r<l.length)(h:l.getD r z=v):l.set r v=l:=by
 rw[←h,gE,gG hr];exact List.set_getElem_self hr
def pivG2 (b:Tb)(i k:Nat)(line:List Rat)(t:List (List Rat)):Option Tb:=(layL (b.cost.getD k 0) k 0 b.cost line).map fun cost=>
 {b with t:=t,cost:=cost,basic:=b.basic.set i (b.free.getD k 0),free:=b.free.set k (b.basic.getD i 0)}
def pivG1 (b:Tb)(i k:Nat)(line:List Rat):Option Tb:=(layT line k i 0 b.t).bind (pivG2 b i k line)
theorem pivot_eq (b:Tb)(i k:Nat):pivotT b i k=(turnL ((b.t.getD i []).getD k 0) k 0 (b.t.getD i [])).bind (pivG1 b i k):=rfl
theorem pivot_any {w:World}{d:Ad}{b:Tb}{i k:Nat}(h:TAt tyT w d b)(hw:Wf b)(hi:i<b.t.length)(hk:k<b.free.length):Calls Tryz.prog 183 #[vptr d.t0,iv6 i,iv6 k] w fun e w'=>Stp d.S w w'∧((∃b',pivotT b i k=some b'∧e= .returned (.tuple #[])∧TAt tyT w' d b')∨(pivotT b i k=none∧ThrewX e)):=by
 have HT:=ZH h;have HW:=ZH hw;have HLT:=ZH h.lt;have hft:=hw.ft i hi;obtain⟨h0,h1,h2,h3,h4,h5,h6⟩:=h.head.seven;have hki:k<(b.t.getD i []).length:=by omega
 have hl1:(b.t.getD i []).length≤b.free.length:=by omega
 have hl2:b.free.length≤(b.t.getD i []).length:=by omega
 have hsf:=hw.sf;have hst:=hw.st;obtain⟨gT,oT,hTA,ci⟩:=h.tp i hi;replace ci:w.cell? ⟨gT,oT+i,none⟩=some (.slice (d.ls.getD i (none,0)).1 (b.t.getD i []).length (d.ls.getD i (none,0)).2):=ci;obtain⟨gL,oL,hLA,A,c,B,e,a1,a2,a3,a4,hq⟩:=h.tr i hi k hki;have hRow0:=h.tr i hi;rw[hLA]at hRow0 ci;have HRow0:=ZH hRow0;have hgL:d.at (.l i)=some gL:=by show bl (d.ls.getD i (none,0)).1=_;rw[hLA];rfl
 have HGL:=ZH hgL;have HLA:=ZH hLA;have HB0:=ZH (h.box _ _ hgL);have hgl:gL<w.heap.size:=h.lt _ ⟨_,hgL⟩;rw[hTA]at h4;have HA0:=ZH hq;obtain⟨R,hR⟩:∃R,pivotT b i k=R:=⟨_,rfl⟩;rw[hR];rw[pivot_eq]at hR;have H4:=Lk.of h4;have HI:=Lk.of ci;clear hw h hft h0 h1 h2 h3 h5 h6 hTA hRow0 hLA hgL hq;obtain⟨lt,hlt0⟩:∃lt,b.t.getD i []=lt:=⟨_,rfl⟩;rw[hlt0]at hR hki hl1 hl2 HRow0 ci HI a1 a2 a4 HA0;have HLTI:=ZH hlt0;clear hlt0;generalize lt.getD k 0=a at*;have HR:Hid (R=((turnL a k 0 (lt.drop 0)).map (([]:List Rat)++·)).bind (pivG1 b i k)):=by
  show _=_;rw[←hR];show _=Option.bind (Option.map (fun r=>[]++r) (turnL a k 0 lt)) _;simp
 clear hR;generalize d.T.2=cT at*;generalize (d.ls.getD i (none,0)).2=cL at*;have M:=(Mem.start w).new 72 z4;go_enter Tryz.func183,Tryz.ntmps183;go_wp2_with ((with_reducible refine st_ ?_);refine wP2 _ _ (M.k (i:=0) rfl) rfl rfl rfl rfl info_rat rfl rfl ?_;intro w4 b4 g4;replace M:=M.row (by omega) (by simp) rfl b4 g4;clear b4 g4;have h4':=H4 _ M.bel;have ci':=HI _ M.bel);have q1:=M.bel;go_loopg [29] lt.length (fun z p wr=>∃(j:Nat)(done:List Rat),z=lt.length-j∧j≤lt.length∧p= .int .i64 (j:Nat)∧done.length=j∧Hid (R=((turnL a k j (lt.drop j)).map (done++·)).bind (pivG1 b i k))∧Hid (QRow wr (some ⟨gL,oL,none⟩) (done++lt.drop j))∧Box wr gL∧Stp (fun b=>b=gL) w wr∧Blk wr w.heap.size 72 (qcs a A c B e)∧QR wr A c B e a)
 case atStart=>exact⟨0,[],rfl,Nat.zero_le _,rfl,rfl,HR.out,HRow0.out.below q1,HB0.out.below q1,Stp.of q1,M.k (i:=0) rfl,HA0.out.below q1⟩
 case round=>
  clear M q1 HR HRow0 HB0 HA0 a1 a2 a3 a4 h4 ci h4' ci';obtain⟨j,done,hk0,hj,rfl,hdl,HL,HRow,hb,hst,hk8,hf⟩:=hrel;by_cases hlt:j<lt.length
  ·have d1:decide ((j:Int)<(lt.length:Int))=true:=dT (by omega);have hj2:j<(done++lt.drop j).length:=by rw[List.length_append,hdl,List.length_drop];omega
   have hne8:w.heap.size≠gL:=by omega
   have HC:Hid (R=((if j=k then divO 1 a else(divO (lt.getD j 0) a).map fun q=> -q).bind fun z=>(turnL a k (j+1) (lt.drop (j+1))).map ((done++[z])++·)).bind (pivG1 b i k)):=by
    show _=_;rw[HL.out,drop_at (z:=0) hlt,turnL_step]
   have hx:=HRow.out.at hj2;rw[getD_here hdl]at hx;obtain⟨A1,c1,B1,d1',x1,x2,x3,x4,hxq⟩:=hx;have X1:=Lk.of x1;have X2:=Lk.of x2;have X3:=Lk.of x3;have X4:=Lk.of x4;have HX:=ZH hxq;have HBox:=ZH hb;have HStp:=ZH hst;have HA:=ZH hf;have M:Mem wr wr [(w.heap.size,72,qcs a A c B e)] []:=⟨Below.refl _ _,(fun k hk=>by obtain rfl:=List.mem_singleton.1 hk;exact hk8),fun _ h=>by simp at h⟩;clear HL x1 x2 x3 x4 hxq hb hst hf hk8;generalize lt.getD j 0=xx at*;by_cases hjk:j=k
   ·have d2:((j:Int)==(k:Int))=true:=by simp[hjk]
    rw[if_pos hjk]at HC;clear hjk;go_upto_region 6 with fail;refine region_tail (n:=6) (frame:= ?frame1) (fun jK=>[kF (.slice (some ⟨gL,oL,none⟩) lt.length cL),kI ((j:Nat)),.val (Sh.rq (some ((1:Int):Rat))),kF (.agg #[.bool (sN a.num),.slice A (sD a.num).length c,.bool false,.slice B (dig a.den).length e]),.val (Sh.rq (divO 1 a)),kP gL (oL+j*4)].getD jK .none) (fun s' w'=>∃q9,R=((turnL a k (j+1) (lt.drop (j+1))).map ((done++[q9])++·)).bind (pivG1 b i k)∧QRow w' (some ⟨gL,oL,none⟩) ((done++[q9])++lt.drop (j+1))∧Box w' gL∧Stp (fun b=>b=gL) w w'∧Blk w' w.heap.size 72 (qcs a A c B e)∧QR w' A c B e a) _ (by kernel_rfl) (by kernel_rfl) (by kernel_rfl) rfl rfl (by kernel_rfl) M ?_ ?_ ?_ ?_
    case refine_1=>
     intro s;simp only[fr,Act.put,zA,zB,zC,zD,zE,zF,Nat.reduceAdd];rfl
    case refine_2=>
     iterate 6 (refine SN ?_ ?_;rotate_left)
     exact Steps.nil;all_goals (intro L s w9 hN hU hi hS K hK;dsimp only at hK⊢;simp only[Act.put,zD,zE,zF]at hK)
     iterate 2 (go_simp;exact hS.o hK)
     ·go_simp;go_at_call 26;refine(pof_any (by decide) (by decide)).mono ?_;rintro e9 w10 ⟨q,A9,c9,B9,d9,rfl,hq9⟩;exact hK.out _ _ (hS.val rfl (nSo rfl) q ⟨_,A9,c9,B9,d9,rfl,rfl,hq9⟩)
     ·obtain⟨u1,u2,u3,u4⟩:=(hS.mem.k (i:=0) rfl).four;go_simp;exact hS.o hK
     ·obtain⟨q2,A2,c2,B2,d2,o2,e2,h2⟩:=hS.val_at 2 rfl (by decide) (hN.out 2 rfl);simp only[e2,hS.f hN 3]at hK⊢;go_simp;go_at_call 182;refine(pdiv_any h2 (HA.out.below hS.mem.bel)).mono ?_;rintro e9 w10 ⟨q,⟨q9,A9,c9,B9,d9,ho9,rfl,hq9⟩|⟨ho9,v9,rfl⟩⟩
      ·exact hK.out _ _ (hS.val rfl (nSo rfl) q ⟨q9,A9,c9,B9,d9,by have:=Option.some.inj o2;subst this;exact ho9,rfl,hq9⟩)
      ·exact⟨rfl,(HStp.out.trans ((Stp.of hS.mem.bel).trans (Stp.of q))).mono (fun k hk=>by subst hk;exact⟨_,HGL.out⟩),.inr ⟨HC.out.trans (bind_n (bind_n (by have:=Option.some.inj o2;subst this;exact ho9))),v9,rfl⟩⟩
     ·simp only[hS.f hN 0,hS.f hN 1]at hK⊢;go_simp;exact hS.o hK
    case refine_3=>
     intro L s w9 hall hS K hK;dsimp only at hK⊢;simp only[Act.put,zD,zE,zF]at hK;simp only[hS.fx 5 rfl rfl (hall 5 (by decide))]at hK⊢;obtain⟨q4,A4,c4,B4,d4,o4,e4,h4⟩:=hS.val_at 4 rfl (by decide) (hall 4 (by decide));simp only[e4]at hK⊢;refine ite_of rfl ?_;have hr9:=HRow.out.below hS.mem.bel;have hb9:=HBox.out.below hS.mem.bel;obtain⟨p1,p2,p3,p4⟩:=hr9.put hj2 hb9 h4;refine wp_store_mid _ _ _ rfl gL (oL+j*4) (qcs q4 A4 c4 B4 d4) rfl rfl p1 rfl (by rw[←Array.all_toList];rfl) ?_;exact hK.out undef _ ⟨q4,HC.out.trans (by rw[o4];rfl),set_here hlt hdl▸p4,p3,(HStp.out.trans (Stp.of hS.mem.bel)).trans (Stp.wrote hb9 p2 rfl),(hS.mem.k (i:=0) rfl).turn p2 (fun e=>hne8 e),HA.out.below hS.mem.bel|>.boxed hb9 p2⟩
    intro s w9 hR;obtain⟨q9,HR9,hr9,hb9,hs9,hk9,hf9⟩:=hR;have HR9':=ZH HR9;have hr9':=ZH hr9;clear HR9 hr9 HC HRow M HBox HStp HA X1 X2 X3 X4 HX;go_wp2_with fail;go_roundg (lt.length-(j+1))
    case measure=>omega
    case rel=>exact⟨j+1,done++[q9],rfl,by omega,by simp,by simp[hdl],HR9'.out,hr9'.out,hb9,hs9,hk9,hf9⟩
   ·have d2:((j:Int)==(k:Int))=false:=eq_boolK (by omega);rw[if_neg hjk]at HC;clear hjk;go_upto_region 7 with fail;refine region_tail (n:=10) (frame:= ?frame2) (fun jK=>[kF (.slice (some ⟨gL,oL,none⟩) lt.length cL),kI ((j:Nat)),kF (.slice (some ⟨gL,oL,none⟩) lt.length cL),kI ((j:Nat)),kP gL (oL+j*4),kF (qv xx A1 c1 B1 d1'),kF (.agg #[.bool (sN a.num),.slice A (sD a.num).length c,.bool false,.slice B (dig a.den).length e]),.val (Sh.rq (divO xx a)),.val (Sh.rq ((divO xx a).map fun q=> -q)),kP gL (oL+j*4)].getD jK .none) (fun s' w'=>∃q9,R=((turnL a k (j+1) (lt.drop (j+1))).map ((done++[q9])++·)).bind (pivG1 b i k)∧QRow w' (some ⟨gL,oL,none⟩) ((done++[q9])++lt.drop (j+1))∧Box w' gL∧Stp (fun b=>b=gL) w w'∧Blk w' w.heap.size 72 (qcs a A c B e)∧QR w' A c B e a) _ (by kernel_rfl) (by kernel_rfl) (by kernel_rfl) rfl rfl (by kernel_rfl) M ?_ ?_ ?_ ?_
    case refine_1=>
     intro s;simp only[fr,Act.put,zA,zB,zC,zD,zE,zF,Nat.reduceAdd];rfl
    case refine_2=>
     iterate 10 (refine SN ?_ ?_;rotate_left)
     exact Steps.nil;all_goals (intro L s w9 hN hU hi hS K hK;dsimp only at hK⊢;simp only[Act.put,zD,zE,zF]at hK)
     iterate 4 (go_simp;exact hS.o hK)
     ·simp only[hS.f hN 2,hS.f hN 3]at hK⊢;go_simp;exact hS.o hK
     ·simp only[hS.f hN 4]at hK⊢;have u0:=X1 _ hS.mem.bel;have u1:=X2 _ hS.mem.bel;have u2:=X3 _ hS.mem.bel;have u3:=X4 _ hS.mem.bel;go_simp;exact hS.o hK
     ·obtain⟨u1,u2,u3,u4⟩:=(hS.mem.k (i:=0) rfl).four;go_simp;exact hS.o hK
     ·simp only[hS.f hN 5,hS.f hN 6]at hK⊢;go_simp;go_at_call 182;refine(pdiv_any (HX.out.below hS.mem.bel) (HA.out.below hS.mem.bel)).mono ?_;rintro e9 w10 ⟨q,⟨q9,A9,c9,B9,d9,ho9,rfl,hq9⟩|⟨ho9,v9,rfl⟩⟩
      ·exact hK.out _ _ (hS.val rfl (nSo rfl) q ⟨q9,A9,c9,B9,d9,ho9,rfl,hq9⟩)
      ·exact⟨rfl,(HStp.out.trans ((Stp.of hS.mem.bel).trans (Stp.of q))).mono (fun k hk=>by subst hk;exact⟨_,HGL.out⟩),.inr ⟨HC.out.trans (bind_n (bind_n (by rw[ho9];rfl))),v9,rfl⟩⟩
     ·obtain⟨q7,A7,c7,B7,d7,o7,e7,h7⟩:=hS.val_at 7 rfl (by decide) (hN.out 7 rfl);simp only[e7]at hK⊢;go_simp;go_at_call 143;refine(pneg_any h7).mono ?_;rintro e9 w10 ⟨q,A9,c9,B9,d9,rfl,hq9⟩;exact hK.out _ _ (hS.val rfl (nSo rfl) q ⟨_,A9,c9,B9,d9,by rw[o7];rfl,rfl,hq9⟩)
     ·simp only[hS.f hN 0,hS.f hN 1]at hK⊢;go_simp;exact hS.o hK
    case refine_3=>
     intro L s w9 hall hS K hK;dsimp only at hK⊢;simp only[Act.put,zD,zE,zF]at hK;simp only[hS.fx 9 rfl rfl (hall 9 (by decide))]at hK⊢;obtain⟨q8,A8,c8,B8,d8,o8,e8,h8⟩:=hS.val_at 8 rfl (by decide) (hall 8 (by decide));simp only[e8]at hK⊢;refine ite_of rfl ?_;have hr9:=HRow.out.below hS.mem.bel;have hb9:=HBox.out.below hS.mem.bel;obtain⟨p1,p2,p3,p4⟩:=hr9.put hj2 hb9 h8;refine wp_store_mid _ _ _ rfl gL (oL+j*4) (qcs q8 A8 c8 B8 d8) rfl rfl p1 rfl (by rw[←Array.all_toList];rfl) ?_;exact hK.out undef _ ⟨q8,HC.out.trans (by rw[o8];rfl),set_here hlt hdl▸p4,p3,(HStp.out.trans (Stp.of hS.mem.bel)).trans (Stp.wrote hb9 p2 rfl),(hS.mem.k (i:=0) rfl).turn p2 (fun e=>hne8 e),HA.out.below hS.mem.bel|>.boxed hb9 p2⟩
    intro s w9 hR;obtain⟨q9,HR9,hr9,hb9,hs9,hk9,hf9⟩:=hR;have HR9':=ZH HR9;have hr9':=ZH hr9;clear HR9 hr9 HC HRow M HBox HStp HA X1 X2 X3 X4 HX;go_wp2_with fail;go_roundg (lt.length-(j+1))
    case measure=>omega
    case rel=>exact⟨j+1,done++[q9],rfl,by omega,by simp,by simp[hdl],HR9'.out,hr9'.out,hb9,hs9,hk9,hf9⟩
  ·have d1:decide ((j:Int)<(lt.length:Int))=false:=dF (by omega);have HC2:Hid (R=pivG1 b i k done):=by
    show _=_;rw[HL.out,drop_none hlt];simp[turnL]
   have HR2:Hid (QRow wr (some ⟨gL,oL,none⟩) done):=by
    have:=HRow.out;rw[drop_none hlt,List.append_nil]at this;exact this
   have hll:done.length=lt.length:=by omega
   obtain⟨W0,rfl⟩:∃W0,W0=wr:=⟨_,rfl⟩;have HT1:Hid (TAt tyT W0 d {b with t:=b.t.set i done}):=HT.out.putLine hi (g:=gL) HGL.out hst.grown hb (by rw[HLA.out];exact HR2.out) (by rw[HLTI.out];exact hll);have hs0:Stp d.S w W0:=hst.mono fun k hk=>by subst hk;exact⟨_,HGL.out⟩
   have HLD:=ZH hll;have hd1:done.length≤b.free.length:=by omega
   have hd2:b.free.length≤done.length:=by omega
   have hTA:∃TA cT,W0.cell? ⟨d.t0,4,none⟩=some (.slice TA b.t.length cT):=by
    obtain⟨_,_,_,_,h4x,_,_⟩:=HT1.out.head.seven;dsimp only at h4x;rw[List.length_set]at h4x;exact⟨_,_,h4x⟩
   obtain⟨TA,cT',hTA⟩:=hTA;have HC3:Hid (R=((layT done k i 0 (b.t.drop 0)).map (([]:List (List Rat))++·)).bind (pivG2 b i k done)):=by
    show _=_;rw[HC2.out];unfold pivG1;show _=Option.bind (Option.map (fun r=>[]++r) (layT done k i 0 b.t)) _;simp
   clear HL HRow hst hk8 hf hb hll hdl hk0 HC2;go_wp2_with fail;go_loopg [57] b.t.length (fun z p wr=>∃(r:Nat)(dt:List (List Rat)),z=b.t.length-r∧r≤b.t.length∧p= .int .i64 (r:Nat)∧dt.length=r∧Hid (R=((layT done k i r (b.t.drop r)).map (dt++·)).bind (pivG2 b i k done))∧TAt tyT wr d {b with t:=dt++(b.t.set i done).drop r}∧Stp d.S w wr∧Hid (QRow wr (some ⟨gL,oL,none⟩) done))
   case atStart=>exact⟨0,[],rfl,Nat.zero_le _,rfl,rfl,HC3.out,HT1.out,hs0,HR2.out⟩
   case round=>
    clear HC3 HT1 hs0 HR2 hTA d1 hlt hj;obtain⟨r,dt,hz,hr,rfl,hdl,HL,ht,hs,HLN⟩:=hrel;have HTr:=ZH ht;obtain⟨h0,h1,h2,h3,h4,h5,h6⟩:=ht.head.seven;dsimp only at h4 h5;have htl:(dt++(b.t.set i done).drop r).length=b.t.length:=by rw[List.length_append,hdl,List.length_drop,List.length_set];omega
    rw[htl]at h4;have HTLn:=ZH htl;have HDL:=ZH hdl;by_cases hlt:r<b.t.length
    ·have d1:decide ((r:Int)<(b.t.length:Int))=true:=dT (by omega);have HC:Hid (R=((if r=i then some done else layL ((b.t.getD r []).getD k 0) k 0 (b.t.getD r []) done).bind fun z=>(layT done k i (r+1) (b.t.drop (r+1))).map ((dt++[z])++·)).bind (pivG2 b i k done)):=by
      show _=_;rw[HL.out,drop_at (z:=[]) hlt,layT_step]
     have hrs:r<(b.t.set i done).length:=by rw[List.length_set];exact hlt
     have hrt:r<(dt++(b.t.set i done).drop r).length:=by omega
     have hge:(dt++(b.t.set i done).drop r).getD r []=if r=i then done else b.t.getD r []:=by rw[getD_here hdl,set_getD hi]
     clear htl;by_cases hri:r=i
     ·have d2:((r:Int) !=(i:Int))=false:=by simp[hri]
      rw[if_pos hri]at HC hge;have he:dt++(b.t.set i done).drop r=(dt++[done])++(b.t.set i done).drop (r+1):=(set_same hrt hge).symm.trans (set_here hrs hdl);have HTn:=HTr.out;rw[he]at HTn;have HTn':=ZH HTn;have HC':Hid (R=((layT done k i (r+1) (b.t.drop (r+1))).map ((dt++[done])++·)).bind (pivG2 b i k done)):=HC.out;clear HTn ht hge he hri h0 h1 h2 h3 h4 h5 h6 HC hdl hrs hrt;go_wp2_with fail;go_roundg (b.t.length-(r+1))
      case measure=>omega
      case rel=>exact⟨r+1,dt++[done],rfl,by omega,by simp,by simp[HDL.out],HC'.out,HTn'.out,hs,HLN.out⟩
     ·have d2:((r:Int) !=(i:Int))=true:=ne_boolK (by omega);rw[if_neg hri]at HC hge;have hfr:=HW.out.ft r hlt;have HFR:=ZH hfr;have htp:=HTr.out.tp r hrt;obtain⟨gT',oT',hT,ct⟩:=htp;rw[hT]at h4;replace ct:wr.cell? ⟨gT',oT'+r,none⟩=some (.slice (d.ls.getD r (none,0)).1 ((dt++(b.t.set i done).drop r).getD r []).length (d.ls.getD r (none,0)).2):=ct;have hrow:=HTr.out.tr r hrt;replace hrow:QRow wr (d.ls.getD r (none,0)).1 ((dt++(b.t.set i done).drop r).getD r []):=hrow;rw[hge]at ct hrow;have hkr:k<(b.t.getD r []).length:=by omega
      obtain⟨gR,oR,hR,_⟩:=hrow k hkr;have HLR:=ZH hR;rw[hR]at ct hrow;have hgR:d.at (.l r)=some gR:=by show bl (d.ls.getD r (none,0)).1=_;rw[hR];rfl
      have hne:gR≠gL:=fun e=>by
       have:=HTr.out.apart (.l r) (.l i) gL (by rw[←e];exact hgR) HGL.out;injection this with this;exact hri this
      have HRP:=ZH (replace_any (w:=wr) (x:=vptr d.t0) (c:=(d.ls.getD r (none,0)).2) (c2:=cL) (k:=k) hrow (HTr.out.box _ _ hgR) HLN.out hne (by omega) hkr (by omega));have HGR:=ZH hgR;have HGE:=ZH hge;have HRT:=ZH hrt;have HRS:=ZH hrs;clear ht hge hri h0 h1 h2 h3 h5 h6 hrow hR hgR hT hdl hrt hrs;generalize hll1:(b.t.getD r []).length=ll at ct HRP;have hll2:ll≤b.free.length:=by omega
      have HLL:=ZH hll1;clear hll1 hfr;generalize (d.ls.getD r (none,0)).2=cR at*;rw[HLD.out]at HRP;go_wp2_with fail;refine HRP.out.mono ?_;rintro e' w1 ⟨hs1,⟨l',hl',rfl,hr1,hb1⟩|⟨hn,v',rfl⟩⟩
      ·have hlen:l'.length=(b.t.getD r []).length:=layL_len _ _ _ _ _ (by rw[HFR.out];omega) hl';have hT2:=HTr.out.putLine (i:=r) HRT.out (g:=gR) HGR.out hs1.grown hb1 (by rw[HLR.out];exact hr1) (by rw[hlen];exact(congrArg List.length HGE.out).symm);have hT3:TAt tyT w1 d {b with t:=(dt++[l'])++(b.t.set i done).drop (r+1)}:=by
        have:=hT2;dsimp only at this;rw[set_here HRS.out HDL.out]at this;exact this
       have HT3:=ZH hT3;have HC':Hid (R=((layT done k i (r+1) (b.t.drop (r+1))).map ((dt++[l'])++·)).bind (pivG2 b i k done)):=HC.out.trans (by rw[hl'];rfl);have HLN2:=ZH (HLN.out.stp hs1 fun g' e=>by injection e with e;subst e;exact fun e=>hne e.symm);have hs2:Stp d.S w w1:=hs.trans (hs1.mono fun k hk=>by subst hk;exact⟨_,HGR.out⟩);clear hT2 hT3 hr1 hl' hlen HC HRP HTr HLN HL h4 ct hs1;go_wp2_with fail;go_roundg (b.t.length-(r+1))
       case measure=>omega
       case rel=>exact⟨r+1,dt++[l'],rfl,by omega,by simp,by simp[HDL.out],HC'.out,HT3.out,hs2,HLN2.out⟩
      ·go_wp2_with fail;exact⟨rfl,hs.trans (hs1.mono fun k hk=>by subst hk;exact⟨_,HGR.out⟩),.inr ⟨HC.out.trans (bind_n (bind_n hn)),v',rfl⟩⟩
    ·have d1:decide ((r:Int)<(b.t.length:Int))=false:=dF (by omega);have HC2:Hid (R=pivG2 b i k done dt):=by
      show _=_;rw[HL.out,drop_none hlt];simp[layT]
     have HT2:Hid (TAt tyT wr d {b with t:=dt}):=by
      have:=HTr.out;rw[show(b.t.set i done).drop r=[] from drop_none (by rw[List.length_set];exact hlt),List.append_nil]at this;exact this
     have hk2:k<b.cost.length:=by rw[HW.out.fc];exact hk
     obtain⟨gC,oC,hC,_⟩:=HT2.out.co k hk2;replace hC:d.C.1=some ⟨gC,oC,none⟩:=hC;have hgC:d.at .C=some gC:=by show bl d.C.1=_;rw[hC];rfl
     have hneC:gC≠gL:=fun e=>by
      have:=HT2.out.apart .C (.l i) gL (by rw[←e];exact hgC) HGL.out;cases this
     have hcrow:=HT2.out.co;replace hcrow:QRow wr d.C.1 b.cost:=hcrow;rw[hC]at hcrow h5;have HRC:=ZH (replace_any (w:=wr) (x:=vptr d.t0) (c:=d.C.2) (c2:=cL) (k:=k) hcrow (HT2.out.box _ _ hgC) HLN.out hneC (by rw[HW.out.fc];omega) hk2 (by rw[HW.out.fc];exact hsf));have HGC:=ZH hgC;have HCA:=ZH hC;have hcl:b.cost.length=done.length:=by rw[HW.out.fc];omega
     have HCL:=ZH hcl;rw[HLD.out]at HRC;clear ht h0 h1 h2 h3 h4 h6 hgC hC hcrow HTr HL htl hdl hz hr hcl;generalize d.C.2=cC at*;go_wp2_with fail;refine HRC.out.mono ?_;rintro e' w1 ⟨hs1,⟨l',hl',rfl,hr1,hb1⟩|⟨hn,v',rfl⟩⟩
     ·have hlen:l'.length=b.cost.length:=layL_len _ _ _ _ _ HCL.out hl';have HT3:=ZH (HT2.out.putCost (g:=gC) HGC.out hs1.grown hb1 (by rw[HCA.out];exact hr1) hlen);have hs2:Stp d.S w w1:=hs.trans (hs1.mono fun k hk=>by subst hk;exact⟨_,HGC.out⟩);have HC3:Hid (R=some {b with t:=dt,cost:=l',basic:=b.basic.set i (b.free.getD k 0),free:=b.free.set k (b.basic.getD i 0)}):=HC2.out.trans (by unfold pivG2;rw[hl'];rfl);have hib:i<b.basic.length:=by rw[HW.out.bt];exact hi
      obtain⟨gB,oB,hB,cB⟩:=HT3.out.ba i hib;obtain⟨gF,oF,hF,cF⟩:=HT3.out.fr k hk;replace cB:w1.cell? ⟨gB,oB+i,none⟩=some (iv6 (b.basic.getD i 0)):=cB;replace cF:w1.cell? ⟨gF,oF+k,none⟩=some (iv6 (b.free.getD k 0)):=cF;obtain⟨_,_,h2,h3,_,_,_⟩:=HT3.out.head.seven;dsimp only at h2 h3;rw[hB]at h2;rw[hF]at h3;have hgB:d.at .B=some gB:=by show bl d.B.1=_;rw[hB];rfl
      have hgF:d.at .F=some gF:=by show bl d.F.1=_;rw[hF];rfl
      have e1:¬gB=gF:=fun e=>by
       have:=HT3.out.apart .B .F gF (by rw[←e];exact hgB) hgF;cases this
      have e2:¬gB=d.t0:=fun e=>by
       have:=HT3.out.apart .B .h d.t0 (by rw[←e];exact hgB) rfl;cases this
      have e3:¬gF=d.t0:=fun e=>by
       have:=HT3.out.apart .F .h d.t0 (by rw[←e];exact hgF) rfl;cases this
      have e4:¬gF=gB:=fun e=>e1 e.symm;have e5:¬d.t0=gB:=fun e=>e2 e.symm;have e6:¬d.t0=gF:=fun e=>e3 e.symm;obtain⟨csB,tB,hbB,_⟩:=HT3.out.box _ _ hgB;obtain⟨csF,tF,hbF,_⟩:=HT3.out.box _ _ hgF;have f1:=Blk.frozen hbB (oB+i);have f2:=Blk.frozen hbF (oF+k);have P1:=ZH (HT3.out.putB (v:=b.free.getD k 0) hib hB);have P2:=ZH (P1.out.2.putF (v:=b.basic.getD i 0) hk hF);generalize b.basic.getD i 0=vB at*;generalize b.free.getD k 0=vF at*;generalize d.B.2=cB' at*;generalize d.F.2=cF' at*;generalize d.t0=t0 at*;clear hl' hlen HRC HT2 hr1 hb1 hs1 HC2 hbB hbF hB hF hgB hgF h5 HLN HT hs HT3;go_wp2_with fail;go_region;go_wp2_with fail;exact⟨rfl,_,by simp[results,Tryz.results183,go_sem],((hs2.trans P1.out.1).trans P2.out.1).trans (Stp.of ((Read.refl _).drew.below _)),.inl ⟨_,HC3.out,rfl,P2.out.2.below ((Read.refl _).drew.below _)⟩⟩
     ·go_wp2_with fail;exact⟨rfl,hs.trans (hs1.mono fun k hk=>by subst hk;exact⟨_,HGC.out⟩),.inr ⟨HC2.out.trans (by unfold pivG2;rw[hn];rfl),v',rfl⟩⟩
abbrev lineI:Option Nat→Int
 |none=> -1
 |some i=>(i:Nat)
abbrev bkC (k:Bk)(A:Option Addr)(c:Nat)(B:Option Addr)(d:Nat):Array Value:= #[.bool true,.bool (sN k.far.num),.slice A (sD k.far.num).length c,.bool false,.slice B (dig k.far.den).length d,.int .i64 (lineI k.line),.int .i64 (k.v:Nat)]
abbrev bk0:Array Value:= #[.bool false,.bool false,.slice none 0 0,.bool false,.slice none 0 0,.int .i64 0,.int .i64 0]
theorem cmpQ_three (a b:Rat):(cmpQ a b= -1∧a<b)∨(cmpQ a b=1∧b<a)∨(cmpQ a b=0∧a=b):=by
 unfold cmpQ;by_cases h:a<b
 ·rw[if_pos h];exact .inl ⟨rfl,h⟩
 ·rw[if_neg h];by_cases h2:b<a
  ·rw[if_pos h2];exact .inr (.inl ⟨rfl,h2⟩)
  ·rw[if_neg h2];exact .inr (.inr ⟨rfl,Rat.le_antisymm (Rat.not_lt.1 h2) (Rat.not_lt.1 h)⟩)
theorem info_block:(Tryz.prog.info? 226).map (·.size)=some 7:=by kernel_rfl
def BkAt (w:World)(g:Nat):Option Bk→Prop
 |none=>Blk w g 226 bk0
 |some k=>∃A c B d,Blk w g 226 (bkC k A c B d)∧QR w A c B d k.far
theorem BkAt.stp {S:Nat→Prop}{w w':World}{g:Nat}{c:Option Bk}(h:BkAt w g c)(k:Stp S w w')(hn:¬S g):BkAt w' g c:=by
 cases c with
 |none=>exact Blk.stp h k hn
 |some b=>
  obtain⟨A,c,B,d,h1,h2⟩:=h;exact⟨A,c,B,d,h1.stp k hn,h2.stp k⟩
theorem BkAt.below {w w':World}{g:Nat}{c:Option Bk}(h:BkAt w g c)(q:Below w.heap.size w w'):BkAt w' g c:=h.stp (S:=fun _=>False) (Stp.of q) (fun e=>e)
theorem near_any {w:World}{g:Nat}{c:Option Bk}{far:Rat}{A:Option Addr}{c':Nat}{B:Option Addr}{d:Nat}{line:Option Nat}{v:Nat}(h:BkAt w g c)(hq:QR w A c' B d far):Calls Tryz.prog 204 #[vptr g,qv far A c' B d,.int .i64 (lineI line),iv6 v] w fun e w'=>e= .returned (.tuple #[])∧Stp (fun b=>b=g) w w'∧BkAt w' g (nearS c far line v):=by
 have HQ:=ZH hq;clear hq;generalize hL:lineI line=L;have HL:=ZH hL;cases c with
 |none=>
  have HN:Hid (nearS none far line v=some ⟨far,line,v⟩):=rfl;have hb9:Blk (w.alloc (.cells (qcs far A c' B d) 72)) g 226 bk0:=Blk.alloc h _;have HS9:Hid (Stp (fun b=>b=g) w (w.alloc (.cells (qcs far A c' B d) 72))):=Stp.of (bA1 w _);obtain⟨u0,u1,u2,u3,u4,u5,u6⟩:=Blk.seven hb9;have hx:=(Blk.new w 72 (qcs far A c' B d)).four;obtain⟨x1,x2,x3,x4⟩:=hx;subst hL;go_enter Tryz.func204,Tryz.ntmps204;go_wp2_with ((with_reducible refine st_ ?_);refine wP2 _ _ hb9 rfl rfl rfl rfl info_block rfl rfl ?_;intro w4 b4 g4);exact⟨rfl,_,by simp[results,Tryz.results204,go_sem],rfl,HS9.out.trans (Stp.wrote (hb9.box rfl) g4 rfl),(by rw[HN.out];exact⟨A,c',B,d,b4,(HQ.out.stp HS9.out).boxed (hb9.box rfl) g4⟩)⟩
 |some k=>
  obtain⟨A2,c2,B2,d2,hb,hk⟩:=h;obtain⟨u0,u1,u2,u3,u4,u5,u6⟩:=Blk.seven hb;have X1:=Lk.of u1;have X2:=Lk.of u2;have X3:=Lk.of u3;have X4:=Lk.of u4;have X6:=Lk.of u6;have a0:=(Lk.of u0) _ (bA1 w (.cells (qcs far A c' B d) 72));have HK:=ZH hk;have HB:=ZH hb;have M:=(Mem.start w).new 72 (qcs far A c' B d);obtain⟨kf,kl,kv⟩:=k;dsimp only at*;have hc3:=cmpQ_three far kf;have HN0:Hid (nearS (some ⟨kf,kl,kv⟩) far line v=if kf<far∨(far=kf∧kv<v) then some ⟨kf,kl,kv⟩ else some ⟨far,line,v⟩):=rfl;clear u1 u2 u3 u4 u5 u6 hb hk;go_enter Tryz.func204,Tryz.ntmps204;go_upto_region 2 with fail;refine region_st (n:=7) (frame:= ?frame1) (fun jK=>[kF (.agg #[.bool (sN far.num),.slice A (sD far.num).length c',.bool false,.slice B (dig far.den).length d]),kP g 0,kP g 0,kP g 1,kF (qv kf A2 c2 B2 d2),kI ((cmpQ far kf)),kI ((cmpQ far kf))].getD jK .none) [] (by kernel_rfl) (by kernel_rfl) (by kernel_rfl) rfl M (fun _ h=>by cases h) (fun _ h=>by cases h) ?_ ?_ ?_
  case refine_1=>
   intro s;simp only[fr,Act.put,zA,zB,zC,zD,zE,zF,Nat.reduceAdd];rfl
  case refine_2=>
   iterate 7 (refine SN ?_ ?_;rotate_left)
   exact Steps.nil;all_goals (intro L s w9 hN hU hi hS K hK;dsimp only at hK⊢;simp only[Act.put,zD,zE,zF]at hK)
   ·obtain⟨u1,u2,u3,u4⟩:=(hS.mem.k (i:=0) rfl).four;go_simp;exact hS.o hK
   ·go_simp;exact hS.o hK
   ·simp only[hS.f hN 1]at hK⊢;go_simp;exact hS.o hK
   ·simp only[hS.f hN 2]at hK⊢;go_simp;exact hS.o hK
   ·simp only[hS.f hN 3]at hK⊢;have u1:=X1 _ hS.mem.bel;have u2:=X2 _ hS.mem.bel;have u3:=X3 _ hS.mem.bel;have u4:=X4 _ hS.mem.bel;go_simp;exact hS.o hK
   ·simp only[hS.f hN 0,hS.f hN 4]at hK⊢;go_simp;go_at_call 200;refine(pcmp_any (HQ.out.below hS.mem.bel) (HK.out.below hS.mem.bel)).mono ?_;rintro e9 w10 ⟨rfl,q⟩;exact hK.out _ _ (hS.val rfl (nSo rfl) q rfl)
   ·simp only[hS.f hN 5]at hK⊢;go_simp;exact hS.o hK
  intro L s w9 hall hS;have e9:=hS.fx 6 rfl rfl (hall 6 (by decide));replace M:=hS.mem;simp only[e9];clear hS hall e9;have HS9:Hid (Stp (fun b=>b=g) w w9):=Stp.of M.bel;have hb9:=HB.out.below M.bel ZL;have hbk:Hid (BkAt w9 g (some ⟨kf,kl,kv⟩)):=⟨A2,c2,B2,d2,hb9,HK.out.below M.bel⟩;have u6:=X6 _ M.bel;obtain⟨x1,x2,x3,x4⟩:=(M.k (i:=0) rfl).four;clear X1 X2 X3 X4 X6;subst hL;rcases hc3 with ⟨hc,hlt⟩|⟨hc,hlt⟩|⟨hc,rfl⟩
  ·rw[hc];have HN:Hid (nearS (some ⟨kf,kl,kv⟩) far line v=some ⟨far,line,v⟩):=HN0.out.trans (if_neg (fun h=>h.elim (fun h=>absurd (Std.lt_trans h hlt) Rat.lt_irrefl) (fun h=>absurd (h.1▸hlt) Rat.lt_irrefl)));clear hc HN0 hlt hbk;go_wp2_with ((with_reducible refine st_ ?_);refine wP2 _ _ hb9 rfl rfl rfl rfl info_block rfl rfl ?_;intro w4 b4 g4);exact⟨rfl,_,by simp[results,Tryz.results204,go_sem],rfl,HS9.out.trans (Stp.wrote (hb9.box rfl) g4 rfl),(by rw[HN.out];exact⟨A,c',B,d,b4,(HQ.out.stp HS9.out).boxed (hb9.box rfl) g4⟩)⟩
  ·rw[hc];have HN:Hid (nearS (some ⟨kf,kl,kv⟩) far line v=some ⟨kf,kl,kv⟩):=HN0.out.trans (if_pos (.inl hlt));clear hc HN0 hlt;go_wp2_with fail;exact⟨rfl,_,by simp[results,Tryz.results204,go_sem],rfl,HS9.out,(by rw[HN.out];exact hbk.out)⟩
  ·rw[hc];by_cases hvu:kv<v
   ·have d3:decide ((kv:Int)<(v:Int))=true:=dT (by omega);have HN:Hid (nearS (some ⟨far,kl,kv⟩) far line v=some ⟨far,kl,kv⟩):=HN0.out.trans (if_pos (.inr ⟨rfl,hvu⟩));clear hc HN0;go_wp2_with fail;exact⟨rfl,_,by simp[results,Tryz.results204,go_sem],rfl,HS9.out,(by rw[HN.out];exact hbk.out)⟩
   ·have d3:decide ((kv:Int)<(v:Int))=false:=dF (by omega);have HN:Hid (nearS (some ⟨far,kl,kv⟩) far line v=some ⟨far,line,v⟩):=HN0.out.trans (if_neg (fun h=>h.elim (fun h=>absurd h Rat.lt_irrefl) (fun h=>hvu h.2)));clear hc HN0 hbk;go_wp2_with ((with_reducible refine st_ ?_);refine wP2 _ _ hb9 rfl rfl rfl rfl info_block rfl rfl ?_;intro w4 b4 g4);exact⟨rfl,_,by simp[results,Tryz.results204,go_sem],rfl,HS9.out.trans (Stp.wrote (hb9.box rfl) g4 rfl),(by rw[HN.out];exact⟨A,c',B,d,b4,(HQ.out.stp HS9.out).boxed (hb9.box rfl) g4⟩)⟩
end Go.Proofs.YtecfcjdgmpopjaaGreat

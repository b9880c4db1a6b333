/-
  Joined texts: Gr, Hp, Gf, Gs, Hq, Hr, Gt, Gu.
-/
import Derived.Test.YtecfcjdgmpopjaaGreatGq
import Derived.Test.YtecfcjdgmpopjaaGreatGl
import Derived.Test.YtecfcjdgmpopjaaGreatGc
import Derived.Test.YtecfcjdgmpopjaaGreatKd
set_option maxHeartbeats 16000000
set_option maxRecDepth 100000
set_option linter.unusedSimpArgs false
set_option linter.unusedVariables false
namespace Go.Proofs.YtecfcjdgmpopjaaGreat
open Go.RowKit Num
theorem within_all_in {l:List Int}(h:l.all withinB=true){j:Nat}(hj:j<l.length): -1048576≤l.getD j 0∧l.getD j 0≤1048576:=by
 rw[gE,gG hj];exact within_in (List.all_eq_true.1 h _ (List.getElem_mem hj))
theorem rowP_step {r A X:List Int}{s:Int}{j:Nat}(hj:j<A.length)(hx:j<X.length):rowP r s (A.drop j) (X.drop j)=rowP (r.set (X.getD j 0).toNat (r.getD (X.getD j 0).toNat 0+s*A.getD j 0)) s (A.drop (j+1)) (X.drop (j+1)):=by
 rw[drop_at (z:=0) hj,drop_at (z:=0) hx];rfl
theorem mem_set_in {l:List Int}{j:Nat}{u B C:Int}(h:∀z∈l,-B≤z∧z≤B)(hB:B≤C)(hu: -C≤u∧u≤C):∀z∈l.set j u,-C≤z∧z≤C:=fun z hz=>by
 rcases List.mem_or_eq_of_mem_set hz with h1|h1
 ·have:=h z h1;omega
 ·omega
theorem rwadd_any {w0 w:World}{g:Nat}{m:Pa}{p:Pg}{x aa:Adr}{c:Cn}{s most:Int}(hb:Below w0.heap.size w0 w)(hc:CnAt w0 x aa c)(h:RwAt w w0.heap.size g m p)(hl:c.a.length≤c.x.length)(ha:c.a.length≤1000)(hx:∀y∈c.x,0≤y∧y<p.lo.length)(hw:c.a.all withinB=true)(hs:s=1∨s= -1)(hn:p.lo.length≤1000)(hk:p.a.length≤1000)(hk2:p.b.length≤1000):Calls Tryz.prog 60 #[vptr g,.agg (cnC x aa c),.int .i64 s,.int .i64 most] w fun e w'=>e= .returned (.tuple #[])∧Below w0.heap.size w0 w'∧∃m',RwAt w' w0.heap.size g m' (addP p c s most)∧Kp g w w' m m':=by
 have H:=ZH h;have HB:=ZH hb;have HX:=ZH fun(w':World)(q:Below w0.heap.size w0 w')=>(hc.below q).x;have HA:=ZH fun(w':World)(q:Below w0.heap.size w0 w')=>(hc.below q).a;have HW:=ZH fun(j:Nat)(hj:j<c.a.length)=>within_all_in hw hj;have hwb:=hb.size;have M:=(Mem.start w).new 69 (cnC x aa c);obtain⟨c0,c1,c2,c3⟩:=(M.k (i:=0) rfl).four;obtain⟨h0,_,_,_,_⟩:=(h.hd.below M.bel ZL).fiveP;have HC0:=ZH (M.k (i:=0) rfl);have HM0:=ZH M.bel;obtain⟨n,hnn⟩:∃n,p.lo.length=n:=⟨_,rfl⟩;rw[hnn]at h0 hn;have HI:=ZH fun(j:Nat)(hj:j<c.x.length)=>by
  have:=hx _ (List.getElem_mem hj);rw[hnn]at this;rw[show c.x[j]=c.x.getD j 0 by rw[gE,gG hj];rfl]at this;exact this
 obtain⟨R,hR⟩:∃R,rowP (List.replicate n 0) s c.a c.x=R:=⟨_,rfl⟩;have HR:Hid (R=rowP (List.replicate n 0) s (c.a.drop 0) (c.x.drop 0)):=hR.symm;obtain⟨P',hP'⟩:∃P',addP p c s most=P':=⟨_,rfl⟩;have HP:Hid (P'=if R.all withinB then{p with a:=p.a++[R],b:=p.b++[most]} else p):=by
  show _=_;rw[←hP',←hR,←hnn];rfl
 have HRL:Hid (R.length=n):=by
  show _=_;rw[←hR,rowP_len,List.length_replicate]
 rw[hP'];obtain⟨k,X,A,C⟩:=c;replace hl:A.length≤X.length:=hl;replace ha:A.length≤1000:=ha;replace c0:_=some (Value.int .i64 k):=c0;replace c1:_=some (Value.slice x.1 X.length x.2):=c1;replace c2:_=some (Value.slice aa.1 A.length aa.2):=c2;replace c3:_=some (Value.int .i64 C):=c3;replace HX:Hid (∀(w':World)(q:Below w0.heap.size w0 w'),IRow w' x.1 X):=HX;replace HA:Hid (∀(w':World)(q:Below w0.heap.size w0 w'),IRow w' aa.1 A):=HA;replace HW:Hid (∀(j:Nat)(hj:j<A.length),-1048576≤A.getD j 0∧A.getD j 0≤1048576):=HW;replace HI:Hid (∀(j:Nat)(hj:j<X.length),0≤X.getD j 0∧X.getD j 0<n):=HI;replace HR:Hid (R=rowP (List.replicate n 0) s (A.drop 0) (X.drop 0)):=HR;clear h hb hc hw hx hR hP' hnn M;go_enter Tryz.func60,Tryz.ntmps60;go_wp2_with (at_make;refine wp_make64 _ _ _ n rfl rfl (by omega) rfl rfl rfl rfl ?_;intro w1 hrow1 hbel1;have c1:=(HC0.out.below hbel1 ZL).cell 1;have c2:w1.cell? ⟨w.heap.size,2,none⟩=some (.slice aa.1 A.length aa.2):=(HC0.out.below hbel1 ZL).cell 2);have HC1:=ZH (HC0.out.below hbel1 ZL);have HQ1:=ZH (bT HM0.out hbel1);have HRow1:=ZH hrow1;have hg0:(w.alloc (.cells (cnC x aa ⟨k,X,A,C⟩) 69)).heap.size=w.heap.size+1:=by simp
 clear hrow1 hbel1 c0 c1 c2 c3 h0 HC0;go_loopg [21] A.length (fun kk pp wr=>∃(j:Nat)(r:List Int),kk=A.length-j∧j≤A.length∧pp= .int .i64 (j:Nat)∧Hid (R=rowP r s (A.drop j) (X.drop j))∧r.length=n∧Hid (∀z∈r,-(1048576*(j:Int))≤z∧z≤1048576*(j:Int))∧Hid (Below w.heap.size w wr)∧Hid (Blk wr w.heap.size 69 (cnC x aa ⟨k,X,A,C⟩))∧Hid (Blk wr (w.heap.size+1) tyI6 (iwC r)))
 case atStart=>
  refine⟨0,List.replicate n 0,rfl,Nat.zero_le _,rfl,HR.out,List.length_replicate,fun z hz=> ?_,HQ1.out,HC1.out,?_⟩
  ·have:=List.eq_of_mem_replicate hz;omega
  ·have:=HRow1.out;rw[hg0]at this;exact this
 case round=>
  clear HC1 HQ1 HRow1 HR;obtain⟨j,r,hkk,hj,rfl,HL,hrn,HZ,HQ,HC,HRow⟩:=hrel;have HQ0:=ZH (HB.out.trans (HQ.out.mono hwb));by_cases hlt:j<A.length
  ·have d1:decide ((j:Int)<(A.length:Int))=true:=dT (by omega);have hxl:j<X.length:=by omega
   have HL2:=ZH (HL.out.trans (rowP_step hlt hxl));obtain⟨gx,ox,hxa,cj⟩:=HX.out wr HQ0.out j hxl;obtain⟨ga,oa,haa,cja⟩:=HA.out wr HQ0.out j hlt;replace cj:wr.cell? ⟨gx,ox+j,none⟩=some (.int .i64 (X.getD j 0)):=cj;replace cja:wr.cell? ⟨ga,oa+j,none⟩=some (.int .i64 (A.getD j 0)):=cja;obtain⟨c0,c1,c2,c3⟩:=HC.out.four;replace c1:_=some (Value.slice x.1 X.length x.2):=c1;rw[hxa]at c1;rw[haa];have HAA:=ZH haa;have hi:=HI.out j hxl;have hz:=HW.out j hlt;generalize A.getD j 0=z at*;generalize X.getD j 0=xi at*;obtain⟨i,rfl⟩:=Int.eq_ofNat_of_zero_le hi.1;have hin:i<n:=by omega
   have HL3:Hid (R=rowP (r.set i (r.getD i 0+s*z)) s (A.drop (j+1)) (X.drop (j+1))):=HL2.out;have cr:wr.cell? ⟨w.heap.size+1,i,none⟩=some (.int .i64 (r.getD i 0)):=iwC_cell HRow.out (by rw[hrn];exact hin);have hf:=HRow.out.frozen i;have hv: -(1048576*(j:Int))≤r.getD i 0∧r.getD i 0≤1048576*(j:Int):=by
    have hil:i<r.length:=by rw[hrn];exact hin
    rw[gE,gG hil];exact HZ.out _ (List.getElem_mem hil)
   generalize hv9:r.getD i 0=v at*;have hsz: -1048576≤s*z∧s*z≤1048576:=by
    rcases hs with rfl|rfl<;>omega
   generalize hsz9:s*z=sz at*;have x1:IntKind.i64.wrap (s*z)=sz:=by rw[hsz9,IntKind.wrap_i64];omega
   have x2:IntKind.i64.wrap (v+sz)=v+sz:=by rw[IntKind.wrap_i64];omega
   have y1:wrap64 (s*z)=sz:=by rw[hsz9];exact IntWalk.wrap64_in _ ⟨by omega,by omega⟩
   have y2:wrap64 (v+sz)=v+sz:=IntWalk.wrap64_in _ ⟨by omega,by omega⟩;have HROW:=ZH (show Blk (wr.setCell ⟨w.heap.size+1,i,none⟩ (iw (v+sz))) (w.heap.size+1) tyI6 (iwC (r.set i (v+sz))) from by rw[←iwC_set];exact HRow.out.set_ i (iw (v+sz)));have HGR:=ZH (gSC wr (w.heap.size+1) i (iw (v+sz)));have HZ2:Hid (∀u∈r.set i (v+sz),-(1048576*((j+1:Nat):Int))≤u∧u≤1048576*((j+1:Nat):Int)):=mem_set_in HZ.out (by omega) (by omega);have HZ3:=ZH hsz9;clear HL HL2 hxa haa hv9 hsz9 hi;go_wp2_with fail;rw[←HAA.out];go_roundg (A.length-(j+1))
   case measure=>omega
   case rel=>exact⟨j+1,r.set i (v+sz),rfl,by omega,by simp,HL3.out,by rw[List.length_set];exact hrn,HZ2.out,below_own HQ.out HGR.out (Nat.le_succ _),(HGR.out.block _ HC.out.lt (fun e=>by injection e with e;omega)).trans HC.out,HROW.out⟩
  ·have d1:decide ((j:Int)<(A.length:Int))=false:=dF (by omega);have hRr:R=r:=by
    rw[HL.out,List.drop_eq_nil_of_le (by omega)];cases X.drop j<;>rfl
   rw[←hRr]at HRow;clear hRr HL HZ;have HRW:=ZH (H.out.below HQ.out);have HCT:=ZH (contains_any (P:=fun z=> !withinB z) (c:=n) (iwC_row HRow.out) (by rw[HRL.out];omega) ad1_run fun z w'=>ad1_any z w');obtain⟨bR,hbR⟩:∃b,R.all withinB=b:=⟨_,rfl⟩;rw[show(R.any fun z=> !withinB z)= !bR by rw[←hbR,←any_within,Bool.not_not],HRL.out]at HCT;rw[hbR]at HP;have hgw:g<w.heap.size:=H.out.hd.lt;clear hbR hrn hs;go_wp2_with fail;refine HCT.out.mono ?_;rintro e w2 ⟨rfl,q2⟩;replace HRW:=ZH (HRW.out.below q2);have HQ2:=ZH (HQ0.out.trans (q2.mono HQ0.out.size));have HRow2:=ZH (HRow.out.below q2 ZL);have hbs:=HQ2.out.size;have HKP:=ZH (Kp.of (g:=g) m (bT HQ.out q2));clear HCT q2 HRow HC HQ0 HQ;cases bR with
   |false=>
    go_wp2_with fail;exact⟨rfl,_,by simp[results,Tryz.results60,go_sem],rfl,HQ2.out,m,by rw[HP.out];exact HRW.out,HKP.out⟩
   |true=>
    obtain⟨b0,b1,b2,b3,b4⟩:=HRW.out.hd.fiveP;have HAP:=ZH HRW.out.ap;generalize hAA:m.a.1=AA at b2 HAP;have HAA:=ZH hAA;generalize m.a.2=cA at b2 HAP;have hla:p.a.length≤1000000:=by omega
    clear b0 b1 b3 b4 hAA;go_upto_region 9 with (at_builtin;refine wp_appNu _ _ w2 w0.heap.size tyIs 1 (.slice AA p.a.length cA) p.a.length (rowVs m.rs p.a) #[.slice (some ⟨w.heap.size+1,0,none⟩) n n] (by first|rfl|simp) Tryz.underlying29 info_is rfl rfl (by decide) (by decide) HAP.out hbs hla rfl rfl rfl rfl rfl rfl rfl ?_;intro v7 w7 r1 r2 r3 r4;obtain⟨A7,c7,rfl⟩:=r1.slice;rw[own_bl]at r2 r4;rw[own_bl]at r4;have hh7:Blk w7 g tyRw (pgC m p):=(r2.block g HRW.out.hd.lt (fun e=>HRW.out.na g (by rw[HAA.out];exact e.symm) rfl)).trans HRW.out.hd;have k0:=(hh7.cell 2).trans rfl;have k1:=hh7.frozen 2);have hp:=HRW.out.pushA (A':=A7) (c':=c7) (R:=(some ⟨w.heap.size+1,0,none⟩,n)) (row:=R) (iwC_row HRow2.out) (fun b hb=>by
     obtain rfl:w.heap.size+1=b:=by injection hb
     refine⟨HRow2.out.lt,by omega,fun e=> ?_,fun e=> ?_⟩
     ·have:=(H.out.ap.ltBl e).2;omega
     ·have:=(H.out.bp.ltBl e).2;omega) (fun b hb=>by
     obtain rfl:w.heap.size+1=b:=by injection hb
     omega) (by rw[HRL.out];exact r1) (by rw[HAA.out];exact r2) (by rw[HAA.out];exact r4)
    obtain⟨W8,hW8⟩:∃W8,W8=w7.setCell ⟨g,2,none⟩ (.slice A7 (p.a.length+1) c7):=⟨_,rfl⟩;rw[←hW8]at hp⊢;obtain⟨hp,hpb⟩:=hp;have HQ8:=ZH (hpb w0 HQ2.out hbs).1;have HK8:=ZH (HKP.out.trans (hpb w0 HQ2.out hbs).2);have hbs8:=HQ8.out.size;have HP8:=ZH hp;obtain⟨q8,hq8⟩:∃q8,({p with a:=p.a++[R]}:Pg)=q8:=⟨_,rfl⟩;have HE:Hid (({p with a:=p.a++[R],b:=p.b++[most]}:Pg)={q8 with b:=q8.b++[most]}):=by
     show _=_;rw[←hq8]
    have hlb:q8.b.length≤1000000:=by
     rw[←hq8];show p.b.length≤_;omega
    have HPE:Hid (P'={q8 with b:=q8.b++[most]}):=HP.out.trans HE.out;rw[hq8]at HP8;generalize ({m with a:=(A7,c7),rs:=m.rs++[(some ⟨w.heap.size+1,0,none⟩,n)]}:Pa)=m8 at HP8 HK8;clear hp hpb r1 r2 r3 r4 hh7 k0 k1 hW8 b2 hq8 HE HAP HRW HRow2 HP;obtain⟨b0,b1,b2,b3,b4⟩:=HP8.out.hd.fiveP;have HBP:=ZH HP8.out.bp;generalize hBB:m8.b.1=BB at b3 HBP;have HBB:=ZH hBB;generalize m8.b.2=cB at b3 HBP;clear b0 b1 b2 b4 hBB;go_wp2_with (at_builtin;refine wp_appNu _ _ W8 w0.heap.size tyI6 1 (.slice BB q8.b.length cB) q8.b.length (q8.b.map iw) #[.int .i64 most] (by first|rfl|simp) Tryz.underlying28 info_i6 rfl rfl (by decide) (by decide) HBP.out hbs8 hlb rfl rfl rfl rfl rfl rfl rfl ?_;intro v7 w7 r1 r2 r3 r4;obtain⟨A9,c9,rfl⟩:=r1.slice;rw[own_bl]at r2 r4;rw[own_bl]at r4;have hh7:Blk w7 g tyRw (pgC m8 q8):=(r2.block g HP8.out.hd.lt (fun e=>(HP8.out.nb g (by rw[HBB.out];exact e.symm)).1 rfl)).trans HP8.out.hd;have k0:=(hh7.cell 3).trans rfl;have k1:=hh7.frozen 3);have hp:=HP8.out.pushB (A':=A9) (c':=c9) (z:=most) r1 (by rw[HBB.out];exact r2) (by rw[HBB.out];exact r4);exact⟨rfl,_,by simp[results,Tryz.results60,go_sem],rfl,(hp.2 w0 HQ8.out hbs8).1,_,by rw[HPE.out];exact hp.1,HK8.out.trans (hp.2 w0 HQ8.out hbs8).2⟩
theorem addP_lo (p:Pg)(c:Cn)(s most:Int):(addP p c s most).lo=p.lo:=by
 unfold addP;split<;>rfl
theorem may_places {doms:List (List (Int×Int))}{c:Cn}(h:mayC doms c=true):∀y∈c.x,0≤y∧y<doms.length:=by
 rw[may_con]at h;unfold conD at h;simp only[Bool.and_eq_true]at h;obtain⟨_,_,_,_,h2,_⟩:=h;intro y hy;have:=List.all_eq_true.1 h2 y hy;unfold inD at this;simp only[Bool.and_eq_true,decide_eq_true_eq]at this;exact this
theorem ranges_in:∀(l:List (Int×Int))(p:Option Int),rangesB p l=true→∀r∈l,loD l≤r.1∧r.1≤r.2∧r.2≤hiD l
 |[],_,_,r,hr=>by cases hr
 |[x],p,h,r,hr=>by
  have h0:(rangeB p x&&true)=true:=h;unfold rangeB at h0;simp only[Bool.and_eq_true,decide_eq_true_eq]at h0;obtain rfl:=List.mem_singleton.1 hr;exact⟨Int.le_refl _,h0.1.1,Int.le_refl _⟩
 |x::y::l,p,h,r,hr=>by
  have h0:(rangeB p x&&rangesB (some x.2) (y::l))=true:=h;rw[Bool.and_eq_true]at h0;obtain⟨h1,h2⟩:=h0;have ih:=ranges_in (y::l) _ h2;have iy:=ih y List.mem_cons_self;have h4:(rangeB (some x.2) y&&rangesB (some y.2) l)=true:=h2;unfold rangeB at h1 h4;simp only[Bool.and_eq_true,decide_eq_true_eq]at h1 h4;have e1:hiD (x::y::l)=hiD (y::l):=rfl;have e2:loD (x::y::l)=x.1:=rfl;have e3:loD (y::l)=y.1:=rfl;rw[e1,e2];rw[e3]at ih iy;rcases List.mem_cons.1 hr with rfl|hr
  ·omega
  ·have:=ih r hr;omega
theorem addP_ab (p:Pg)(c:Cn)(s most:Int):(addP p c s most).a.length≤p.a.length+1∧(addP p c s most).b.length≤p.b.length+1:=by
 unfold addP;split
 ·exact⟨by simp,by simp⟩
 ·exact⟨Nat.le_succ _,Nat.le_succ _⟩
theorem may_rows {doms:List (List (Int×Int))}{c:Cn}(h:mayC doms c=true):(c.k=1∨c.k=2∨c.k=11→c.a.length=c.x.length)∧c.x.length≤32∧(∀y∈c.x,0≤y∧y<doms.length)∧c.a.all withinB=true∧withinB c.c=true:=by
 refine⟨fun hk=> ?_,?_⟩
 ·rw[may_con]at h;unfold conD at h;rw[Bool.and_eq_true]at h;have h1:=h.1;unfold shapeD at h1;rcases hk with e|e|e<;>rw[e]at h1<;>simp at h1<;>omega
 ·have hp:=may_places h;rw[may_con]at h;unfold conD at h;simp only[Bool.and_eq_true,decide_eq_true_eq]at h;exact⟨h.2.1,hp,h.2.2.2.2.2.1,h.2.2.1⟩
theorem rwcon_any {w0 w:World}{g:Nat}{m:Pa}{p:Pg}{x aa:Adr}{c:Cn}{doms:List (List (Int×Int))}(hb:Below w0.heap.size w0 w)(hc:CnAt w0 x aa c)(h:RwAt w w0.heap.size g m p)(hm:mayC doms c=true)(hd:p.lo.length=doms.length)(hn:p.lo.length≤64)(hk:p.a.length≤900)(hk2:p.b.length≤900):Calls Tryz.prog 31 #[vptr g,.agg (cnC x aa c)] w fun e w'=>e= .returned (.tuple #[])∧Below w0.heap.size w0 w'∧∃m',RwAt w' w0.heap.size g m' (conP p c)∧Kp g w w' m m':=by
 obtain⟨g1,g2,g3,g4,g5⟩:=may_rows hm;have HADD:Hid (∀(w':World)(m':Pa)(q:Pg)(s most:Int),Below w0.heap.size w0 w'→RwAt w' w0.heap.size g m' q→q.lo=p.lo→q.a.length≤950→q.b.length≤950→(s=1∨s= -1)→(c.k=1∨c.k=2∨c.k=11)→Calls Tryz.prog 60 #[vptr g,.agg (cnC x aa c),.int .i64 s,.int .i64 most] w' fun e w2=>e= .returned (.tuple #[])∧Below w0.heap.size w0 w2∧∃m2,RwAt w2 w0.heap.size g m2 (addP q c s most)∧Kp g w' w2 m' m2):=fun w' m' q s most hb' h' hlo ha hb2 hs hkk=>by
  have:=g1 hkk;exact rwadd_any hb' hc h' (by omega) (by omega) (by rw[hlo,hd];exact g3) g4 hs (by rw[hlo];omega) (by omega) (by omega)
 have HA:=ZH fun(w':World)(q:Below w0.heap.size w0 w')=>(hc.below q).a;have hgl:c.k=11→c.a.length≤1000:=fun e=>by
  have:=g1 (.inr (.inr e));omega
 have M:=(Mem.start w).new 69 (cnC x aa c);have HBM:=ZH (hb.trans (M.bel.mono hb.size));have HRM:=ZH (h.below M.bel);have HKM:=ZH (Kp.of (g:=g) m M.bel);have HOF:Hid (OffR m g w.heap.size):=⟨fun e=>by have:=h.hd.lt;omega,fun e=>by have:=(h.ap.ltBl e).2;omega,fun e=>by have:=(h.bp.ltBl e).2;omega⟩;have cc:=within_in g5;obtain⟨P',hP'⟩:∃P',conP p c=P':=⟨_,rfl⟩;rw[hP'];have HP:Hid (conP p c=P'):=hP';have HAB:=ZH (addP_ab p c 1 c.c);have HAL:=ZH (addP_lo p c 1 c.c);obtain⟨k,X,A,C⟩:=c;obtain⟨c0,c1,c2,c3⟩:=(M.k (i:=0) rfl).four;replace c0:_=some (Value.int .i64 k):=c0;replace c1:_=some (Value.slice x.1 X.length x.2):=c1;replace c2:_=some (Value.slice aa.1 A.length aa.2):=c2;replace c3:_=some (Value.int .i64 C):=c3;replace hgl:k=11→A.length≤1000:=hgl;replace cc: -1048576≤C∧C≤1048576:=cc;replace HA:Hid (∀(w':World)(q:Below w0.heap.size w0 w'),IRow w' aa.1 A):=HA;have HMC:=ZH M;clear hP' hb hc h hm g1 g2 g3 g4 g5 hd;by_cases k2:k=2
 ·have d1:(k==2)=true:=beq_iff_eq.2 k2;have HE:Hid (addP p ⟨k,X,A,C⟩ 1 C=P'):=by
   show _=_;rw[←HP.out];unfold conP;rw[if_pos k2]
  have HKK:Hid (k=1∨k=2∨k=11):= .inr (.inl k2);clear k2 hgl;go_enter Tryz.func31,Tryz.ntmps31;go_wp2_with fail;refine(HADD.out _ _ _ 1 C HBM.out HRM.out rfl (by omega) (by omega) (.inl rfl) HKK.out).mono ?_;rintro e w2 ⟨rfl,q2,m2,h2,kp2⟩;have HQ2:=ZH q2;have HR2:=ZH h2;have HK2:=ZH (HKM.out.trans kp2);clear q2 h2 kp2;go_wp2_with fail;exact⟨rfl,_,by simp[results,Tryz.results31,go_sem],rfl,HQ2.out,m2,by rw[←HE.out];exact HR2.out,HK2.out⟩
 ·have d1:(k==2)=false:=beq_false_of_ne k2;by_cases k1:k=1
  ·have d2:(k==1)=true:=beq_iff_eq.2 k1;have HE:Hid (addP (addP p ⟨k,X,A,C⟩ 1 C) ⟨k,X,A,C⟩ (-1) (-C)=P'):=by
    show _=_;rw[←HP.out];unfold conP;rw[if_neg k2,if_pos k1]
   have HKK:Hid (k=1∨k=2∨k=11):= .inl k1;have x1:IntKind.i64.wrap (-C)= -C:=by rw[IntKind.wrap_i64];omega
   have x2:wrap64 (-C)= -C:=IntWalk.wrap64_in _ ⟨by omega,by omega⟩;clear k1 k2 hgl;go_enter Tryz.func31,Tryz.ntmps31;go_wp2_with fail;refine(HADD.out _ _ _ 1 C HBM.out HRM.out rfl (by omega) (by omega) (.inl rfl) HKK.out).mono ?_;rintro e w2 ⟨rfl,q2,m2,h2,kp2⟩;have HQ2:=ZH q2;have HR2:=ZH h2;have hb2:=kp2.blk (HMC.out.k (i:=0) rfl) HOF.out;have HK2:=ZH (HKM.out.trans kp2);have c0:w2.cell? ⟨w.heap.size,0,none⟩=some (.int .i64 k):=hb2.1.four.1;have c1:w2.cell? ⟨w.heap.size,1,none⟩=some (.slice x.1 X.length x.2):=hb2.1.four.2.1;have c2:w2.cell? ⟨w.heap.size,2,none⟩=some (.slice aa.1 A.length aa.2):=hb2.1.four.2.2.1;have c3:w2.cell? ⟨w.heap.size,3,none⟩=some (.int .i64 C):=hb2.1.four.2.2.2;have hab:=HAB.out;have HQL:Hid ((addP p ⟨k,X,A,C⟩ 1 C).lo=p.lo):=HAL.out;obtain⟨q9,hq9⟩:∃q9,addP p ⟨k,X,A,C⟩ 1 C=q9:=⟨_,rfl⟩;replace hab:(addP p ⟨k,X,A,C⟩ 1 C).a.length≤p.a.length+1∧(addP p ⟨k,X,A,C⟩ 1 C).b.length≤p.b.length+1:=hab;rw[hq9]at HQL hab HR2 HE;clear q2 h2 kp2 hb2 hq9;go_wp2_with fail;refine(HADD.out _ _ _ (-1) (-C) HQ2.out HR2.out HQL.out (by omega) (by omega) (.inr rfl) HKK.out).mono ?_;rintro e w3 ⟨rfl,q3,m3,h3,kp3⟩;have HQ3:=ZH q3;have HR3:=ZH h3;have HK3:=ZH (HK2.out.trans kp3);clear q3 h3 kp3;go_wp2_with fail;exact⟨rfl,_,by simp[results,Tryz.results31,go_sem],rfl,HQ3.out,m3,by rw[←HE.out];exact HR3.out,HK3.out⟩
  ·have d2:(k==1)=false:=beq_false_of_ne k1;by_cases k3:k=11
   ·have d3:(k==11)=true:=beq_iff_eq.2 k3;have hal:=hgl k3;obtain⟨Z,hZ⟩:∃Z,mostP (-1) A=Z:=⟨_,rfl⟩;have HZ:Hid (Z=mostP (-1) (A.drop 0)):=hZ.symm;have HE:Hid (addP p ⟨k,X,A,C⟩ (-1) Z=P'):=by
     show _=_;rw[←HP.out,←hZ];unfold conP;rw[if_neg k2,if_neg k1,if_pos k3]
    have HKK:Hid (k=1∨k=2∨k=11):= .inr (.inr k3);clear k1 k2 k3 hgl hZ;go_enter Tryz.func31,Tryz.ntmps31;go_wp2_with fail;go_loopg [34,4] A.length (fun kk pp vv wr=>∃(j:Nat)(n:Int),kk=A.length-j∧j≤A.length∧pp= .int .i64 (j:Nat)∧vv= .int .i64 n∧Hid (Z=mostP n (A.drop j))∧-1≤n∧n≤j∧wr=w.alloc (.cells (cnC x aa ⟨k,X,A,C⟩) 69))
    case atStart=>exact⟨0,-1,rfl,Nat.zero_le _,rfl,rfl,HZ.out,by omega,by omega,rfl⟩
    case round=>
     clear HZ;obtain⟨j,n,hkk,hj,rfl,rfl,HL,hn1,hn2,rfl⟩:=hrel;by_cases hlt:j<A.length
     ·have d4:decide ((j:Int)<(A.length:Int))=true:=dT (by omega);have HC:Hid (Z=mostP (if A.getD j 0<0 then n+1 else n) (A.drop (j+1))):=HL.out.trans (by rw[drop_at (z:=0) hlt];rfl);obtain⟨ga,oa,haa,cj⟩:=HA.out _ HBM.out j hlt;have HAA:=ZH haa;rw[haa];replace cj:(w.alloc (.cells (cnC x aa ⟨k,X,A,C⟩) 69)).cell? ⟨ga,oa+j,none⟩=some (.int .i64 (A.getD j 0)):=cj;generalize A.getD j 0=z at*;have x1:IntKind.i64.wrap (n+1)=n+1:=by rw[IntKind.wrap_i64];omega
      have x2:wrap64 (n+1)=n+1:=IntWalk.wrap64_in _ ⟨by omega,by omega⟩;clear HL haa;by_cases hz:z<0
      ·have d5:decide (z<0)=true:=dT hz;have HC2:Hid (Z=mostP (n+1) (A.drop (j+1))):=HC.out.trans (by rw[if_pos hz]);clear HC hz;go_wp2_with fail;rw[←HAA.out];go_roundg (A.length-(j+1))
       case measure=>omega
       case rel=>exact⟨j+1,n+1,rfl,by omega,by simp,rfl,HC2.out,by omega,by omega,rfl⟩
      ·have d5:decide (z<0)=false:=dF hz;have HC2:Hid (Z=mostP n (A.drop (j+1))):=HC.out.trans (by rw[if_neg hz]);clear HC hz;go_wp2_with fail;rw[←HAA.out];go_roundg (A.length-(j+1))
       case measure=>omega
       case rel=>exact⟨j+1,n,rfl,by omega,by simp,rfl,HC2.out,by omega,by omega,rfl⟩
     ·have d4:decide ((j:Int)<(A.length:Int))=false:=dF (by omega);have HZN:Hid (Z=n):=HL.out.trans (by rw[List.drop_eq_nil_of_le (by omega)];rfl);rw[HZN.out]at HE;clear HL HZN;go_wp2_with fail;refine(HADD.out _ _ _ (-1) n HBM.out HRM.out rfl (by omega) (by omega) (.inr rfl) HKK.out).mono ?_;rintro e w3 ⟨rfl,q3,m3,h3,kp3⟩;have HQ3:=ZH q3;have HR3:=ZH h3;have HK3:=ZH (HKM.out.trans kp3);clear q3 h3 kp3;go_wp2_with fail;exact⟨rfl,_,by simp[results,Tryz.results31,go_sem],rfl,HQ3.out,m3,by rw[←HE.out];exact HR3.out,HK3.out⟩
   ·have d3:(k==11)=false:=beq_false_of_ne k3;have HE:Hid (p=P'):=by
     show _=_;rw[←HP.out];unfold conP;rw[if_neg k2,if_neg k1,if_neg k3]
    clear k1 k2 k3 hgl;go_enter Tryz.func31,Tryz.ntmps31;go_wp2_with fail;exact⟨rfl,_,by simp[results,Tryz.results31,go_sem],rfl,HBM.out,m,by rw[←HE.out];exact HRM.out,HKM.out⟩
theorem wp_appAt_op {P:Program}{o:Oper}{a:Act}{KK:Act→World→Prop}{Q:Exit→Act→World→Prop}(s x:Operand)(w:World)(base:Nat)(e:TypeId)(v:Value)(n:Nat)(xs:List Value)(g:Nat)(u:Value){sl bytes:Nat}{z:Value}(hu:P.underlying sl=some (.slice e))(hinfo:(P.info? e).map (fun i=>(i.zero,i.size,i.bytes))=some (some z,1,bytes))(hz:z.cells.size=1)(hzn:z.cells.toList.all nu=true)(hbt:bytes≤1000)(hown:NRow w base e 1 v n xs)(hb:base≤w.heap.size)(hlen:n≤1000000)(h1:u.oneCell'=true)(hnn:nu u=true)(hc:w.cell? ⟨g,0,none⟩=some u)(ho:o.op= .call {callee:= .builtin .append,args:= #[s,x],argTypes:= #[sl,sl]})(hs:a.eval s=v)(hx:a.eval x= .slice (some ⟨g,0,none⟩) 1 1)(K:∀v' w',NRow w' base e 1 v' (n+1) (xs++[u])→w.grownBy w' v.ownBlock→Below base w w'→(v'.ownBlock=v.ownBlock∨∀g,v'.ownBlock=some g→w.heap.size≤g)→KK (a.put o.dst v') w'):o.wp P a w KK Q:=by
 obtain⟨i0,hi,hz0,hz1,hz2⟩:=info_parts hinfo;obtain⟨v',w',hr,r1,r2,r3⟩:=run_append_nu (P:=P) w base sl o.type e i0 z 1 bytes hu hi hz0 hz1 hz2 hz (by decide) hzn v n xs hown ⟨g,0,none⟩ 1 1 Nat.one_pos [u] rfl
  (by
   intro j y hj;cases j with
   |zero=>
    have:u=y:=by simpa using hj
    subst this;exact hc
   |succ j=>simp at hj)
  (fun y hy=>by rw[List.mem_singleton]at hy;subst hy;exact h1) (by rw[List.all_cons,hnn];rfl) (by unfold maxLen;omega) (Nat.le_trans (Nat.mul_le_mul_left _ hbt) (by omega)) hb
 unfold Oper.wp execOp;simp only[ho,resolve,invoke,builtin,Sem.run_bind,Sem.run_pure,Result.andThen_ok,List.map_toArray,List.map_cons,List.map_nil,hs,hx,hr];have hat:v'.ownBlock=v.ownBlock∨∀g,v'.ownBlock=some g→w.heap.size≤g:=by
  rcases r3 with r3|r3
  ·exact Or.inl r3
  ·refine Or.inr fun g e=> ?_;rw[r3]at e;injection e with e;omega
 exact K v' w' r1 r2 ((Below.refl base w).grown r2 hb (fun k hk=>(World.ownsRow.lt hown.1 k hk).1)) hat
def ElR (gp:Nat)(v1 v2 v3:Value)(w:World)(s z:Value):Prop:=∃g,s= .slice (some ⟨g,0,none⟩) 1 1∧w.cell? ⟨g,0,none⟩=some z∧g<w.heap.size∧g≠gp∧v1.ownBlock≠some g∧v2.ownBlock≠some g∧v3.ownBlock≠some g
structure J3 (w0:World) (gp:Nat) (cells:Array Value) (v1 v2 v3:Value) (n1 n2 n3:Nat) (x1 x2 x3:List Value) (b1:Bool) (s1 z1:Value) (b2:Bool) (s2 z2:Value) (b3:Bool) (s3 z3:Value) (B:List (Nat×TypeId×Array Value)) (w:World):Prop where
 bel:Below w0.heap.size w0 w
 gb:w0.heap.size≤gp
 hd:Blk w gp tyRw cells
 nu:cells.toList.all nu=true
 r1:NRow w w0.heap.size tyI6 1 v1 n1 x1
 r2:NRow w w0.heap.size tyI6 1 v2 n2 x2
 r3:NRow w w0.heap.size tyI6 1 v3 n3 x3
 d12:∀k,v1.ownBlock=some k→v2.ownBlock≠some k
 d13:∀k,v1.ownBlock=some k→v3.ownBlock≠some k
 d23:∀k,v2.ownBlock=some k→v3.ownBlock≠some k
 p1:∀k,v1.ownBlock=some k→k≠gp
 p2:∀k,v2.ownBlock=some k→k≠gp
 p3:∀k,v3.ownBlock=some k→k≠gp
 e1:b1=true→ElR gp v1 v2 v3 w s1 z1
 e2:b2=true→ElR gp v1 v2 v3 w s2 z2
 e3:b3=true→ElR gp v1 v2 v3 w s3 z3
 kp:∀b∈B,Blk w b.1 b.2.1 b.2.2∧b.1≠gp∧v1.ownBlock≠some b.1∧v2.ownBlock≠some b.1∧v3.ownBlock≠some b.1
section
variable {w0 w w' : World} {gp : Nat} {cells : Array Value} {v1 v2 v3 : Value} {n1 n2 n3 : Nat} {x1 x2 x3 : List Value} {b1 b2 b3 : Bool} {s1 s2 s3 z1 z2 z3 : Value} {B : List (Nat × TypeId × Array Value)}
theorem ElR.below {s z:Value}(h:ElR gp v1 v2 v3 w s z)(q:Below w.heap.size w w'):ElR gp v1 v2 v3 w' s z:=by
 obtain⟨g,e,hc,hl,rest⟩:=h;exact⟨g,e,Lk.of hc _ q,Nat.lt_of_lt_of_le hl q.size,rest⟩
theorem J3.below (h:J3 w0 gp cells v1 v2 v3 n1 n2 n3 x1 x2 x3 b1 s1 z1 b2 s2 z2 b3 s3 z3 B w)(q:Below w.heap.size w w'):J3 w0 gp cells v1 v2 v3 n1 n2 n3 x1 x2 x3 b1 s1 z1 b2 s2 z2 b3 s3 z3 B w':=
 ⟨h.bel.trans (q.mono h.bel.size),h.gb,h.hd.below q ZL,h.nu,h.r1.below q,h.r2.below q,h.r3.below q,h.d12,h.d13,h.d23,h.p1,h.p2,h.p3,fun e=>(h.e1 e).below q,fun e=>(h.e2 e).below q,fun e=>(h.e3 e).below q,fun b hb=>⟨(h.kp b hb).1.below q ZL,(h.kp b hb).2⟩⟩
theorem J3.swap12 (h:J3 w0 gp cells v1 v2 v3 n1 n2 n3 x1 x2 x3 b1 s1 z1 b2 s2 z2 b3 s3 z3 B w):J3 w0 gp cells v2 v1 v3 n2 n1 n3 x2 x1 x3 b2 s2 z2 b1 s1 z1 b3 s3 z3 B w:=by
 have el:∀{s z},ElR gp v1 v2 v3 w s z→ElR gp v2 v1 v3 w s z:=fun{s z} ⟨g,a1,a2,a3,a4,a5,a6,a7⟩=>⟨g,a1,a2,a3,a4,a6,a5,a7⟩;exact⟨h.bel,h.gb,h.hd,h.nu,h.r2,h.r1,h.r3,fun k a b=>h.d12 k b a,h.d23,h.d13,h.p2,h.p1,h.p3,fun e=>el (h.e2 e),fun e=>el (h.e1 e),fun e=>el (h.e3 e),fun b hb=>⟨(h.kp b hb).1,(h.kp b hb).2.1,(h.kp b hb).2.2.2.1,(h.kp b hb).2.2.1,(h.kp b hb).2.2.2.2⟩⟩
theorem J3.swap13 (h:J3 w0 gp cells v1 v2 v3 n1 n2 n3 x1 x2 x3 b1 s1 z1 b2 s2 z2 b3 s3 z3 B w):J3 w0 gp cells v3 v2 v1 n3 n2 n1 x3 x2 x1 b3 s3 z3 b2 s2 z2 b1 s1 z1 B w:=by
 have el:∀{s z},ElR gp v1 v2 v3 w s z→ElR gp v3 v2 v1 w s z:=fun{s z} ⟨g,a1,a2,a3,a4,a5,a6,a7⟩=>⟨g,a1,a2,a3,a4,a7,a6,a5⟩;exact⟨h.bel,h.gb,h.hd,h.nu,h.r3,h.r2,h.r1,fun k a b=>h.d23 k b a,fun k a b=>h.d13 k b a,fun k a b=>h.d12 k b a,h.p3,h.p2,h.p1,fun e=>el (h.e3 e),fun e=>el (h.e2 e),fun e=>el (h.e1 e),fun b hb=>⟨(h.kp b hb).1,(h.kp b hb).2.1,(h.kp b hb).2.2.2.2,(h.kp b hb).2.2.2.1,(h.kp b hb).2.2.1⟩⟩
theorem own_lt {base:Nat}{e:TypeId}{v:Value}{n:Nat}{xs:List Value}(h:NRow w base e 1 v n xs){k:Nat}(hk:v.ownBlock=some k):base≤k∧k<w.heap.size:=World.ownsRow.lt h.1 k hk
theorem J3.el1 (h:J3 w0 gp cells v1 v2 v3 n1 n2 n3 x1 x2 x3 b1 s1 z1 b2 s2 z2 b3 s3 z3 B w):J3 w0 gp cells v1 v2 v3 n1 n2 n3 x1 x2 x3 true (.slice (some ⟨w.heap.size,0,none⟩) 1 1) z1 b2 s2 z2 b3 s3 z3 B (w.alloc (.cells #[z1] tyI6)):=by
 have h':=h.below (bA1 w (.cells #[z1] tyI6));refine{h' with e1:=fun _=>⟨w.heap.size,rfl,(Blk.new w tyI6 #[z1]).cell 0,(Blk.new w tyI6 #[z1]).lt,fun e=> ?_,fun e=> ?_,fun e=> ?_,fun e=> ?_⟩}
 ·have:=h.hd.lt;omega
 ·have:=(own_lt h.r1 e).2;omega
 ·have:=(own_lt h.r2 e).2;omega
 ·have:=(own_lt h.r3 e).2;omega
theorem cell_grown {g o:Nat}{z:Value}{row:Option Nat}(hc:w.cell? ⟨g,o,none⟩=some z)(hg:w.grownBy w' row)(hne:row≠some g):w'.cell? ⟨g,o,none⟩=some z:=by
 rw[World.cell?_of_block (hg.block g (World.block_lt_of_cell? w _ hc) fun e=>hne e.symm)];exact hc
theorem J3.app1 {v':Value}(h:J3 w0 gp cells v1 v2 v3 n1 n2 n3 x1 x2 x3 b1 s1 z1 b2 s2 z2 b3 s3 z3 B w)(hr:NRow w' w0.heap.size tyI6 1 v' (n1+1) (x1++[z1]))(hg:w.grownBy w' v1.ownBlock)(hb:Below w0.heap.size w w')(hat:v'.ownBlock=v1.ownBlock∨∀g,v'.ownBlock=some g→w.heap.size≤g):J3 w0 gp cells v' v2 v3 (n1+1) n2 n3 (x1++[z1]) x2 x3 false s1 z1 b2 s2 z2 b3 s3 z3 B w':=by
 have nv:∀k,k<w.heap.size→v1.ownBlock≠some k→v'.ownBlock≠some k:=fun k hk hn e=>by
  rcases hat with h1|h1
  ·exact hn (h1▸e)
  ·have:=h1 k e;omega
 have el:∀{s z},ElR gp v1 v2 v3 w s z→ElR gp v' v2 v3 w' s z:=fun{s z} ⟨g,a1,a2,a3,a4,a5,a6,a7⟩=>
  ⟨g,a1,cell_grown a2 hg a5,Nat.lt_of_lt_of_le a3 hg.size,a4,nv g a3 a5,a6,a7⟩
 refine⟨h.bel.trans hb,h.gb,(hg.block gp h.hd.lt fun e=>h.p1 gp e.symm rfl).trans h.hd,h.nu,hr,h.r2.kept hg fun g e1 e2=>h.d12 g e2.symm e1,h.r3.kept hg fun g e1 e2=>h.d13 g e2.symm e1,fun k e=> ?_,fun k e=> ?_,h.d23,fun k e1 e2=> ?_,h.p2,h.p3,fun e=>absurd e (by decide),fun e=>el (h.e2 e),fun e=>el (h.e3 e),fun b hb=> ?_⟩
 ·intro e2;exact nv k (own_lt h.r2 e2).2 (fun e3=>h.d12 k e3 e2) e
 ·intro e2;exact nv k (own_lt h.r3 e2).2 (fun e3=>h.d13 k e3 e2) e
 ·subst e2;exact nv k h.hd.lt (fun e3=>h.p1 k e3 rfl) e1
 ·obtain⟨k1,k2,k3,k4⟩:=h.kp b hb;exact⟨(hg.block b.1 k1.lt fun e=>k3 e.symm).trans k1,k2,nv _ k1.lt k3,k4⟩
theorem J3.put (h:J3 w0 gp cells v1 v2 v3 n1 n2 n3 x1 x2 x3 b1 s1 z1 b2 s2 z2 b3 s3 z3 B w)(o:Nat){u:Value}(hu:Go.Proofs.YtecfcjdgmpopjaaGreat.nu u=true):J3 w0 gp (cells.setIfInBounds o u) v1 v2 v3 n1 n2 n3 x1 x2 x3 b1 s1 z1 b2 s2 z2 b3 s3 z3 B (w.setCell ⟨gp,o,none⟩ u):=by
 have hg:=gSC w gp o u;have el:∀{s z},ElR gp v1 v2 v3 w s z→ElR gp v1 v2 v3 (w.setCell ⟨gp,o,none⟩ u) s z:=fun{s z} ⟨g,a1,a2,a3,a4,rest⟩=>
  ⟨g,a1,cell_grown a2 hg (fun e=>a4 (by injection e with e;exact e.symm)),Nat.lt_of_lt_of_le a3 hg.size,a4,rest⟩
 refine⟨below_own h.bel hg h.gb,h.gb,h.hd.set_ o u,?_,h.r1.kept hg fun g e1 e2=>h.p1 g e1 (by injection e2),h.r2.kept hg fun g e1 e2=>h.p2 g e1 (by injection e2),h.r3.kept hg fun g e1 e2=>h.p3 g e1 (by injection e2),h.d12,h.d13,h.d23,h.p1,h.p2,h.p3,fun e=>el (h.e1 e),fun e=>el (h.e2 e),fun e=>el (h.e3 e),fun b hb=>⟨(hg.block b.1 (h.kp b hb).1.lt fun e=>(h.kp b hb).2.1 (by injection e)).trans (h.kp b hb).1,(h.kp b hb).2⟩⟩;rw[Array.toList_setIfInBounds];refine List.all_eq_true.2 fun x hx=> ?_;rcases List.mem_or_eq_of_mem_set hx with h1|h1
 ·exact List.all_eq_true.1 h.nu x h1
 ·rw[h1];exact hu
theorem J3.addB (h:J3 w0 gp cells v1 v2 v3 n1 n2 n3 x1 x2 x3 b1 s1 z1 b2 s2 z2 b3 s3 z3 B w){g:Nat}{t:TypeId}{cs:Array Value}(hb:Blk w g t cs)(h1:g≠gp)(h2:v1.ownBlock≠some g)(h3:v2.ownBlock≠some g)(h4:v3.ownBlock≠some g):J3 w0 gp cells v1 v2 v3 n1 n2 n3 x1 x2 x3 b1 s1 z1 b2 s2 z2 b3 s3 z3 ((g,t,cs)::B) w:=
 {h with kp:=(fun b hm=>(List.mem_cons.1 hm).elim (fun e=>by subst e;exact⟨hb,h1,h2,h3,h4⟩) (h.kp b))}
theorem J3.noB (h:J3 w0 gp cells v1 v2 v3 n1 n2 n3 x1 x2 x3 b1 s1 z1 b2 s2 z2 b3 s3 z3 B w):J3 w0 gp cells v1 v2 v3 n1 n2 n3 x1 x2 x3 b1 s1 z1 b2 s2 z2 b3 s3 z3 [] w:={h with kp:=fun b hm=>absurd hm List.not_mem_nil}
theorem NRow.put {base:Nat}{e:TypeId}{g c n:Nat}{xs:List Value}(h:NRow w base e 1 (.slice (some ⟨g,0,none⟩) n c) n xs){k:Nat}(hk:k<n){u:Value}(hu:Go.Proofs.YtecfcjdgmpopjaaGreat.nu u=true):NRow (w.setCell ⟨g,k,none⟩ u) base e 1 (.slice (some ⟨g,0,none⟩) n c) n (xs.set k u):=by
 have hb:=h.2 g rfl;refine⟨⟨by rw[List.length_set];exact h.1.1,?_⟩,fun g' hg'=> ?_⟩
 ·rcases h.1.2 with ⟨h2,_⟩|⟨g',cap,cur,hv,hbg,hgg,hn,hcm,hs,ht⟩
  ·cases h2
  ·have hv':g=g'∧c=cap:=by
    injection hv with e1 _ e3;injection e1 with e1;injection e1 with e1;exact⟨e1,e3⟩
   obtain⟨rfl,rfl⟩:=hv';refine .inr ⟨g,c,cur.setIfInBounds k u,rfl,hbg,Blk.set_ (t:=e) hgg k u,hn,hcm,by rw[Array.size_setIfInBounds];exact hs,?_⟩;rw[Array.toList_setIfInBounds,List.take_set,ht]
 ·have e1:g=g':=by injection hg'
  subst e1;exact hb.setCell hu
theorem J3.rw0 {A1 A2 A3:Option Addr}{c1 c2 c3 n:Nat}{los his cs:List Int}(hl:los.length=n)(hh:his.length=n)(hc:cs.length=n)(h:J3 w0 gp #[.slice A1 n c1,.slice A2 n c2,.slice none 0 0,.slice none 0 0,.slice A3 n c3] (.slice A1 n c1) (.slice A2 n c2) (.slice A3 n c3) n n n (los.map iw) (his.map iw) (cs.map iw) b1 s1 z1 b2 s2 z2 b3 s3 z3 B w):RwAt w w0.heap.size gp ⟨(A1,c1),(A2,c2),(none,0),(none,0),(A3,c3),[]⟩ ⟨los,his,[],[],cs⟩:=by
 have rw1:∀{A:Option Addr}{c:Nat}{l:List Int},l.length=n→NRow w w0.heap.size tyI6 1 (.slice A n c) n (l.map iw)→IRow w A l:=fun{A c l} e hr=>by
  unfold IRow;rw[e];exact hr.crow fun j hj=>map_at l (by omega)
 have no_k:∀{k:Nat},bl (none:Option Addr)≠some k:=fun{k} e=>by cases e
 have ob:∀{A:Option Addr}{c:Nat}{k:Nat},bl A=some k→(Value.slice A n c).ownBlock=some k:=fun{A c k} e=>by rw[own_bl];exact e
 refine⟨?_,h.gb,rw1 hl h.r1,rw1 hh h.r2,rw1 hc h.r3,NRow.nil _ _ _ _,NRow.nil _ _ _ _,fun i hi=>absurd hi (Nat.not_lt_zero _),rfl,fun k e=> ?_,fun k e=> ?_,fun k e=> ?_,fun k e=> ?_⟩
 ·show Blk w gp tyRw #[.slice A1 los.length c1,.slice A2 his.length c2,.slice none 0 0,.slice none 0 0,.slice A3 cs.length c3];rw[hl,hh,hc];exact h.hd
 ·cases e
 ·cases e
 ·rcases e with e|e|e|⟨i,hi,_⟩
  ·exact⟨(own_lt h.r1 (ob e)).2,h.p1 k (ob e),no_k,no_k⟩
  ·exact⟨(own_lt h.r2 (ob e)).2,h.p2 k (ob e),no_k,no_k⟩
  ·exact⟨(own_lt h.r3 (ob e)).2,h.p3 k (ob e),no_k,no_k⟩
  ·exact absurd hi (Nat.not_lt_zero _)
 ·rcases e with e|e|e|⟨i,hi,_⟩
  ·exact(own_lt h.r1 (ob e)).1
  ·exact(own_lt h.r2 (ob e)).1
  ·exact(own_lt h.r3 (ob e)).1
  ·exact absurd hi (Nat.not_lt_zero _)
theorem J3.setc {g c3 k:Nat}{u:Value}(h:J3 w0 gp cells v1 v2 (.slice (some ⟨g,0,none⟩) n3 c3) n1 n2 n3 x1 x2 x3 false s1 z1 false s2 z2 false s3 z3 [] w)(hk:k<n3)(hu:Go.Proofs.YtecfcjdgmpopjaaGreat.nu u=true):J3 w0 gp cells v1 v2 (.slice (some ⟨g,0,none⟩) n3 c3) n1 n2 n3 x1 x2 (x3.set k u) false s1 z1 false s2 z2 false s3 z3 [] (w.setCell ⟨g,k,none⟩ u):=by
 have hg:=gSC w g k u;have o3:(Value.slice (some ⟨g,0,none⟩) n3 c3).ownBlock=some g:=rfl;exact⟨below_own h.bel hg (own_lt h.r3 o3).1,h.gb,(hg.block gp h.hd.lt fun e=>h.p3 g o3 (by injection e with e;exact e.symm)).trans h.hd,h.nu,h.r1.kept hg fun g' e1 e2=>h.d13 g' e1 (by rw[e2];exact o3),h.r2.kept hg fun g' e1 e2=>h.d23 g' e1 (by rw[e2];exact o3),h.r3.put hk hu,h.d12,h.d13,h.d23,h.p1,h.p2,h.p3,fun e=>absurd e (by decide),fun e=>absurd e (by decide),fun e=>absurd e (by decide),fun b hb=>absurd hb List.not_mem_nil⟩
end
abbrev tyRg:TypeId:=65
def JR (w2:World)(gp kr j:Nat)(A1:Option Addr)(c1:Nat)(A2:Option Addr)(c2:Nat)(A3:Option Addr)(c3:Nat)(x1 x2 x3:List Value)(lo hi:Int)(b5 b6 b12 b13 b17 b18 b21 b24 b27:Bool)(s5 s6 s12 s13 s17 s18:Value)(w:World):Prop:=
 J3 w2 gp #[bif b21 then s6 else .slice A1 j c1,bif b24 then s13 else .slice A2 j c2,.slice none 0 0,.slice none 0 0,bif b27 then s18 else .slice A3 j c3] (bif b6 then s6 else .slice A1 j c1) (bif b13 then s13 else .slice A2 j c2) (bif b18 then s18 else .slice A3 j c3) (bif b6 then j+1 else j) (bif b13 then j+1 else j) (bif b18 then j+1 else j)
  (bif b6 then x1++[iw lo] else x1) (bif b13 then x2++[iw hi] else x2) (bif b18 then x3++[iw 0] else x3) (b5&& !b6) s5 (iw lo) (b12&& !b13) s12 (iw hi) (b17&& !b18) s17 (iw 0) [(kr,tyRg,#[iw lo,iw hi])] w
section
variable {w2 w w' : World} {gp kr j : Nat} {A1 A2 A3 : Option Addr} {c1 c2 c3 : Nat} {x1 x2 x3 : List Value} {lo hi : Int} {b5 b6 b12 b13 b17 b18 b21 b24 b27 : Bool} {s5 s6 s12 s13 s17 s18 v' : Value}
theorem J3.free {w0:World}{cells:Array Value}{v1 v2 v3:Value}{n1 n2 n3:Nat}{s1 z1 s2 z2 s3 z3 t1 y1 t2 y2 t3 y3:Value}{B:List (Nat×TypeId×Array Value)}(h:J3 w0 gp cells v1 v2 v3 n1 n2 n3 x1 x2 x3 false s1 z1 false s2 z2 false s3 z3 B w):J3 w0 gp cells v1 v2 v3 n1 n2 n3 x1 x2 x3 false t1 y1 false t2 y2 false t3 y3 B w:=
 {h with e1:=(fun e=>absurd e (by decide)),e2:=(fun e=>absurd e (by decide)),e3:=(fun e=>absurd e (by decide))}
theorem JR.start {s1 z1 s2 z2 s3 z3:Value}(h:J3 w2 gp #[.slice A1 j c1,.slice A2 j c2,.slice none 0 0,.slice none 0 0,.slice A3 j c3] (.slice A1 j c1) (.slice A2 j c2) (.slice A3 j c3) j j j x1 x2 x3 false s1 z1 false s2 z2 false s3 z3 [(kr,tyRg,#[iw lo,iw hi])] w):JR w2 gp kr j A1 c1 A2 c2 A3 c3 x1 x2 x3 lo hi false false false false false false false false false s5 s6 s12 s13 s17 s18 w:=J3.free h
theorem JR.e5 (h:JR w2 gp kr j A1 c1 A2 c2 A3 c3 x1 x2 x3 lo hi b5 b6 b12 b13 b17 b18 b21 b24 b27 s5 s6 s12 s13 s17 s18 w)(h6:b6=false):JR w2 gp kr j A1 c1 A2 c2 A3 c3 x1 x2 x3 lo hi true b6 b12 b13 b17 b18 b21 b24 b27 (.slice (some ⟨w.heap.size,0,none⟩) 1 1) s6 s12 s13 s17 s18 (w.alloc (.cells #[iw lo] tyI6)):=by
 subst h6;exact J3.el1 h
theorem JR.e12 (h:JR w2 gp kr j A1 c1 A2 c2 A3 c3 x1 x2 x3 lo hi b5 b6 b12 b13 b17 b18 b21 b24 b27 s5 s6 s12 s13 s17 s18 w)(h6:b13=false):JR w2 gp kr j A1 c1 A2 c2 A3 c3 x1 x2 x3 lo hi b5 b6 true b13 b17 b18 b21 b24 b27 s5 s6 (.slice (some ⟨w.heap.size,0,none⟩) 1 1) s13 s17 s18 (w.alloc (.cells #[iw hi] tyI6)):=by
 subst h6;exact(J3.el1 (J3.swap12 h)).swap12
theorem JR.e17 (h:JR w2 gp kr j A1 c1 A2 c2 A3 c3 x1 x2 x3 lo hi b5 b6 b12 b13 b17 b18 b21 b24 b27 s5 s6 s12 s13 s17 s18 w)(h6:b18=false):JR w2 gp kr j A1 c1 A2 c2 A3 c3 x1 x2 x3 lo hi b5 b6 b12 b13 true b18 b21 b24 b27 s5 s6 s12 s13 (.slice (some ⟨w.heap.size,0,none⟩) 1 1) s18 (w.alloc (.cells #[iw 0] tyI6)):=by
 subst h6;exact(J3.el1 (J3.swap13 h)).swap13
theorem JR.at6 (h:JR w2 gp kr j A1 c1 A2 c2 A3 c3 x1 x2 x3 lo hi b5 b6 b12 b13 b17 b18 b21 b24 b27 s5 s6 s12 s13 s17 s18 w)(h5:b5=true)(h6:b6=false):∃g,s5= .slice (some ⟨g,0,none⟩) 1 1∧w.cell? ⟨g,0,none⟩=some (iw lo)∧NRow w w2.heap.size tyI6 1 (.slice A1 j c1) j x1∧w2.heap.size≤w.heap.size:=by
 subst h5 h6;obtain⟨g,e1,e2,_⟩:=J3.e1 h rfl;exact⟨g,e1,e2,J3.r1 h,(J3.bel h).size⟩
theorem JR.at13 (h:JR w2 gp kr j A1 c1 A2 c2 A3 c3 x1 x2 x3 lo hi b5 b6 b12 b13 b17 b18 b21 b24 b27 s5 s6 s12 s13 s17 s18 w)(h5:b12=true)(h6:b13=false):∃g,s12= .slice (some ⟨g,0,none⟩) 1 1∧w.cell? ⟨g,0,none⟩=some (iw hi)∧NRow w w2.heap.size tyI6 1 (.slice A2 j c2) j x2∧w2.heap.size≤w.heap.size:=by
 subst h5 h6;obtain⟨g,e1,e2,_⟩:=J3.e2 h rfl;exact⟨g,e1,e2,J3.r2 h,(J3.bel h).size⟩
theorem JR.at18 (h:JR w2 gp kr j A1 c1 A2 c2 A3 c3 x1 x2 x3 lo hi b5 b6 b12 b13 b17 b18 b21 b24 b27 s5 s6 s12 s13 s17 s18 w)(h5:b17=true)(h6:b18=false):∃g,s17= .slice (some ⟨g,0,none⟩) 1 1∧w.cell? ⟨g,0,none⟩=some (iw 0)∧NRow w w2.heap.size tyI6 1 (.slice A3 j c3) j x3∧w2.heap.size≤w.heap.size:=by
 subst h5 h6;obtain⟨g,e1,e2,_⟩:=J3.e3 h rfl;exact⟨g,e1,e2,J3.r3 h,(J3.bel h).size⟩
theorem JR.e6 (h:JR w2 gp kr j A1 c1 A2 c2 A3 c3 x1 x2 x3 lo hi b5 b6 b12 b13 b17 b18 b21 b24 b27 s5 s6 s12 s13 s17 s18 w)(h5:b5=true)(h6:b6=false)(h21:b21=false)(hr:NRow w' w2.heap.size tyI6 1 v' (j+1) (x1++[iw lo]))(hg:w.grownBy w' (Value.slice A1 j c1).ownBlock)(hb:Below w2.heap.size w w')(hat:v'.ownBlock=(Value.slice A1 j c1).ownBlock∨∀g,v'.ownBlock=some g→w.heap.size≤g):JR w2 gp kr j A1 c1 A2 c2 A3 c3 x1 x2 x3 lo hi b5 true b12 b13 b17 b18 b21 b24 b27 s5 v' s12 s13 s17 s18 w':=by
 subst h5 h6 h21;exact J3.app1 h hr hg hb hat
theorem JR.e13 (h:JR w2 gp kr j A1 c1 A2 c2 A3 c3 x1 x2 x3 lo hi b5 b6 b12 b13 b17 b18 b21 b24 b27 s5 s6 s12 s13 s17 s18 w)(h5:b12=true)(h6:b13=false)(h21:b24=false)(hr:NRow w' w2.heap.size tyI6 1 v' (j+1) (x2++[iw hi]))(hg:w.grownBy w' (Value.slice A2 j c2).ownBlock)(hb:Below w2.heap.size w w')(hat:v'.ownBlock=(Value.slice A2 j c2).ownBlock∨∀g,v'.ownBlock=some g→w.heap.size≤g):JR w2 gp kr j A1 c1 A2 c2 A3 c3 x1 x2 x3 lo hi b5 b6 b12 true b17 b18 b21 b24 b27 s5 s6 s12 v' s17 s18 w':=by
 subst h5 h6 h21;exact(J3.app1 (J3.swap12 h) hr hg hb hat).swap12
theorem JR.e18 (h:JR w2 gp kr j A1 c1 A2 c2 A3 c3 x1 x2 x3 lo hi b5 b6 b12 b13 b17 b18 b21 b24 b27 s5 s6 s12 s13 s17 s18 w)(h5:b17=true)(h6:b18=false)(h21:b27=false)(hr:NRow w' w2.heap.size tyI6 1 v' (j+1) (x3++[iw 0]))(hg:w.grownBy w' (Value.slice A3 j c3).ownBlock)(hb:Below w2.heap.size w w')(hat:v'.ownBlock=(Value.slice A3 j c3).ownBlock∨∀g,v'.ownBlock=some g→w.heap.size≤g):JR w2 gp kr j A1 c1 A2 c2 A3 c3 x1 x2 x3 lo hi b5 b6 b12 b13 b17 true b21 b24 b27 s5 s6 s12 s13 s17 v' w':=by
 subst h5 h6 h21;exact(J3.app1 (J3.swap13 h) hr hg hb hat).swap13
theorem row_nu {e:TypeId}{base n:Nat}{v:Value}{xs:List Value}(h:NRow w base e 1 v n xs):nu v=true:=by
 obtain⟨A,c,rfl⟩:=h.slice;rfl
theorem JR.e21 (h:JR w2 gp kr j A1 c1 A2 c2 A3 c3 x1 x2 x3 lo hi b5 b6 b12 b13 b17 b18 b21 b24 b27 s5 s6 s12 s13 s17 s18 w)(h5:b6=true){u:Value}(hu:s6=u):JR w2 gp kr j A1 c1 A2 c2 A3 c3 x1 x2 x3 lo hi b5 b6 b12 b13 b17 b18 true b24 b27 s5 s6 s12 s13 s17 s18 (w.setCell ⟨gp,0,none⟩ u):=by
 subst h5 hu;exact J3.put h 0 (row_nu (J3.r1 h))
theorem JR.e24 (h:JR w2 gp kr j A1 c1 A2 c2 A3 c3 x1 x2 x3 lo hi b5 b6 b12 b13 b17 b18 b21 b24 b27 s5 s6 s12 s13 s17 s18 w)(h5:b13=true){u:Value}(hu:s13=u):JR w2 gp kr j A1 c1 A2 c2 A3 c3 x1 x2 x3 lo hi b5 b6 b12 b13 b17 b18 b21 true b27 s5 s6 s12 s13 s17 s18 (w.setCell ⟨gp,1,none⟩ u):=by
 subst h5 hu;exact J3.put h 1 (row_nu (J3.r2 h))
theorem JR.e27 (h:JR w2 gp kr j A1 c1 A2 c2 A3 c3 x1 x2 x3 lo hi b5 b6 b12 b13 b17 b18 b21 b24 b27 s5 s6 s12 s13 s17 s18 w)(h5:b18=true){u:Value}(hu:s18=u):JR w2 gp kr j A1 c1 A2 c2 A3 c3 x1 x2 x3 lo hi b5 b6 b12 b13 b17 b18 b21 b24 true s5 s6 s12 s13 s17 s18 (w.setCell ⟨gp,4,none⟩ u):=by
 subst h5 hu;exact J3.put h 4 (row_nu (J3.r3 h))
theorem JR.cl0 (h:JR w2 gp kr j A1 c1 A2 c2 A3 c3 x1 x2 x3 lo hi b5 b6 b12 b13 b17 b18 b21 b24 b27 s5 s6 s12 s13 s17 s18 w)(h5:b21=false):w.cell? ⟨gp,0,none⟩=some (.slice A1 j c1):=by
 subst h5;exact(J3.hd h).cell 0
theorem JR.cl1 (h:JR w2 gp kr j A1 c1 A2 c2 A3 c3 x1 x2 x3 lo hi b5 b6 b12 b13 b17 b18 b21 b24 b27 s5 s6 s12 s13 s17 s18 w)(h5:b24=false):w.cell? ⟨gp,1,none⟩=some (.slice A2 j c2):=by
 subst h5;exact(J3.hd h).cell 1
theorem JR.cl4 (h:JR w2 gp kr j A1 c1 A2 c2 A3 c3 x1 x2 x3 lo hi b5 b6 b12 b13 b17 b18 b21 b24 b27 s5 s6 s12 s13 s17 s18 w)(h5:b27=false):w.cell? ⟨gp,4,none⟩=some (.slice A3 j c3):=by
 subst h5;exact(J3.hd h).cell 4
theorem JR.fz (h:JR w2 gp kr j A1 c1 A2 c2 A3 c3 x1 x2 x3 lo hi b5 b6 b12 b13 b17 b18 b21 b24 b27 s5 s6 s12 s13 s17 s18 w)(i:Nat):w.frozen? ⟨gp,i,none⟩=false:=(J3.hd h).frozen i
theorem JR.kr0 (h:JR w2 gp kr j A1 c1 A2 c2 A3 c3 x1 x2 x3 lo hi b5 b6 b12 b13 b17 b18 b21 b24 b27 s5 s6 s12 s13 s17 s18 w):w.cell? ⟨kr,0,none⟩=some (iw lo)∧w.cell? ⟨kr,1,none⟩=some (iw hi):=⟨(J3.kp h _ List.mem_cons_self).1.cell 0,(J3.kp h _ List.mem_cons_self).1.cell 1⟩
theorem JR.f6 (h:JR w2 gp kr j A1 c1 A2 c2 A3 c3 x1 x2 x3 lo hi b5 b6 b12 b13 b17 b18 b21 b24 b27 s5 s6 s12 s13 s17 s18 w)(h5:b6=true):∃B d,s6= .slice B (j+1) d:=by
 subst h5;exact(show NRow w w2.heap.size tyI6 1 s6 (j+1) (x1++[iw lo]) from J3.r1 h).slice
theorem JR.f13 (h:JR w2 gp kr j A1 c1 A2 c2 A3 c3 x1 x2 x3 lo hi b5 b6 b12 b13 b17 b18 b21 b24 b27 s5 s6 s12 s13 s17 s18 w)(h5:b13=true):∃B d,s13= .slice B (j+1) d:=by
 subst h5;exact(show NRow w w2.heap.size tyI6 1 s13 (j+1) (x2++[iw hi]) from J3.r2 h).slice
theorem JR.f18 (h:JR w2 gp kr j A1 c1 A2 c2 A3 c3 x1 x2 x3 lo hi b5 b6 b12 b13 b17 b18 b21 b24 b27 s5 s6 s12 s13 s17 s18 w)(h5:b18=true):∃B d,s18= .slice B (j+1) d:=by
 subst h5;exact(show NRow w w2.heap.size tyI6 1 s18 (j+1) (x3++[iw 0]) from J3.r3 h).slice
theorem JR.done (h:JR w2 gp kr j A1 c1 A2 c2 A3 c3 x1 x2 x3 lo hi b5 b6 b12 b13 b17 b18 b21 b24 b27 s5 s6 s12 s13 s17 s18 w)(t5:b5=true)(t6:b6=true)(t12:b12=true)(t13:b13=true)(t17:b17=true)(t18:b18=true)(t21:b21=true)(t24:b24=true)(t27:b27=true):∃B1 d1 B2 d2 B3 d3,s6= .slice B1 (j+1) d1∧s13= .slice B2 (j+1) d2∧s18= .slice B3 (j+1) d3∧J3 w2 gp #[.slice B1 (j+1) d1,.slice B2 (j+1) d2,.slice none 0 0,.slice none 0 0,.slice B3 (j+1) d3] (.slice B1 (j+1) d1) (.slice B2 (j+1) d2) (.slice B3 (j+1) d3) (j+1) (j+1) (j+1) (x1++[iw lo]) (x2++[iw hi]) (x3++[iw 0]) false (.bool false) (.bool false) false (.bool false) (.bool false) false (.bool false) (.bool false) [] w:=by
 subst t5 t6 t12 t13 t17 t18 t21 t24 t27;obtain⟨B1,d1,e1⟩:=(show NRow w w2.heap.size tyI6 1 s6 (j+1) (x1++[iw lo]) from J3.r1 h).slice;obtain⟨B2,d2,e2⟩:=(show NRow w w2.heap.size tyI6 1 s13 (j+1) (x2++[iw hi]) from J3.r2 h).slice;obtain⟨B3,d3,e3⟩:=(show NRow w w2.heap.size tyI6 1 s18 (j+1) (x3++[iw 0]) from J3.r3 h).slice;subst e1 e2 e3;exact⟨B1,d1,B2,d2,B3,d3,rfl,rfl,rfl,(J3.free h).noB⟩
end
end Go.Proofs.YtecfcjdgmpopjaaGreat

/-
  Joined texts: Hp, Gf, Gs, Hq.
-/
import Derived.Test.YtecfcjdgmpopjaaGreatGk
import Derived.Test.YtecfcjdgmpopjaaGreatGr
import Derived.Test.YtecfcjdgmpopjaaGreatGc
set_option maxHeartbeats 16000000
set_option maxRecDepth 100000
set_option linter.unusedSimpArgs false
set_option linter.unusedVariables false
namespace Go.Proofs.YtecfcjdgmpopjaaGreat
open Go.RowKit Num
theorem rrow_any {w:World}{x aa:Adr}{A X:List Int}{n:Nat}(hA:IRow w aa.1 A)(hX:IRow w x.1 X)(hl:A.length≤X.length)(ha:A.length≤1000)(hl2:X.length≤1000)(hx:∀y∈X,0≤y∧y<n)(hw:A.all withinB=true)(hn:n≤1000):Calls Tryz.prog 62 #[.slice aa.1 A.length aa.2,.slice x.1 X.length x.2,.int .i64 (n:Nat)] w fun e w'=>∃B d,e= .returned (.slice B n d)∧IRow w' B (rowP (List.replicate n 0) 1 A X)∧Below w.heap.size w w':=by
 have HX:=ZH hX;have HA:=ZH hA;have HW:=ZH fun(j:Nat)(hj:j<A.length)=>within_all_in hw hj;have HI:=ZH fun(j:Nat)(hj:j<X.length)=>hx (X.getD j 0) (memD hj);obtain⟨R,hR⟩:∃R,rowP (List.replicate n 0) 1 A X=R:=⟨_,rfl⟩;have HR:Hid (R=rowP (List.replicate n 0) 1 (A.drop 0) (X.drop 0)):=hR.symm;have HRL:Hid (R.length=n):=by
  show _=_;rw[←hR,rowP_len,List.length_replicate]
 rw[hR];clear hA hX hx hw hR;go_enter Tryz.func62,Tryz.ntmps62;go_wp2_with (at_make;refine wp_make64 _ _ _ n rfl rfl (by omega) rfl rfl rfl rfl ?_;intro w1 hrow1 hbel1);have HQ1:=ZH hbel1;have HRow1:=ZH hrow1;clear hrow1 hbel1;go_loopg [8] A.length (fun kk pp wr=>∃(j:Nat)(r:List Int),kk=A.length-j∧j≤A.length∧pp= .int .i64 (j:Nat)∧Hid (R=rowP r 1 (A.drop j) (X.drop j))∧Hid (r.length=n)∧Hid (∀z∈r,-(1048576*(j:Int))≤z∧z≤1048576*(j:Int))∧Hid (Below w.heap.size w wr)∧Hid (Blk wr w.heap.size tyI6 (iwC r)))
 case atStart=>
  refine⟨0,List.replicate n 0,rfl,Nat.zero_le _,rfl,HR.out,List.length_replicate,fun z hz=> ?_,HQ1.out,HRow1.out⟩;have:=List.eq_of_mem_replicate hz;omega
 case round=>
  clear HQ1 HRow1 HR;obtain⟨j,r,hkk,hj,rfl,HL,HRN,HZ,HQ,HRow⟩:=hrel;by_cases hlt:j<A.length
  ·have d1:decide ((j:Int)<(A.length:Int))=true:=dT (by omega);have hxl:j<X.length:=by omega
   have HL2:=ZH (HL.out.trans (rowP_step hlt hxl));obtain⟨gx,ox,hxa,cj⟩:=(HX.out.below HQ.out) j hxl;obtain⟨ga,oa,haa,cja⟩:=(HA.out.below HQ.out) j hlt;replace cj:wr.cell? ⟨gx,ox+j,none⟩=some (.int .i64 (X.getD j 0)):=cj;replace cja:wr.cell? ⟨ga,oa+j,none⟩=some (.int .i64 (A.getD j 0)):=cja;rw[haa,hxa];have HAA:=ZH haa;have HXA:=ZH hxa;have hi:=HI.out j hxl;have hz:=HW.out j hlt;generalize A.getD j 0=z at*;generalize X.getD j 0=xi at*;obtain⟨i,rfl⟩:=Int.eq_ofNat_of_zero_le hi.1;have hin:i<n:=by omega
   have HL3:Hid (R=rowP (r.set i (r.getD i 0+1*z)) 1 (A.drop (j+1)) (X.drop (j+1))):=HL2.out;have hil:i<r.length:=by rw[HRN.out];exact hin
   have cr:wr.cell? ⟨w.heap.size,i,none⟩=some (.int .i64 (r.getD i 0)):=iwC_cell HRow.out hil;have hv: -(1048576*(j:Int))≤r.getD i 0∧r.getD i 0≤1048576*(j:Int):=by
    rw[gE,gG hil];exact HZ.out _ (List.getElem_mem hil)
   rw[Int.one_mul]at HL3;generalize hv9:r.getD i 0=v at*;have x2:IntKind.i64.wrap (v+z)=v+z:=by rw[IntKind.wrap_i64];omega
   have HZ2:Hid (∀u∈r.set i (v+z),-(1048576*((j+1:Nat):Int))≤u∧u≤1048576*((j+1:Nat):Int)):=mem_set_in HZ.out (by omega) (by omega);have HN2:Hid ((r.set i (v+z)).length=n):=by
    show _=_;rw[List.length_set];exact HRN.out
   have CJ:=Lk.of cj;have CA:=Lk.of cja;have CR:=Lk.of cr;have M:=Mem.start wr;clear HL HL2 hxa haa hv9 hi cj cja cr hil;go_upto_region 5 with fail;refine region_tail (n:=18) (frame:= ?frame1) (fun jK=>[kF (.slice (some ⟨w.heap.size,0,none⟩) n n),kF (.slice (some ⟨gx,ox,none⟩) X.length x.2),kI ((j:Nat)),kP gx (ox+j),kI ((i:Nat)),kF (.slice (some ⟨w.heap.size,0,none⟩) n n),kF (.slice (some ⟨gx,ox,none⟩) X.length x.2),kI ((j:Nat)),kP gx (ox+j),kI ((i:Nat)),kP w.heap.size i,kI v,kF (.slice (some ⟨ga,oa,none⟩) A.length aa.2),kI ((j:Nat)),kP ga (oa+j),kI z,kI ((v+z)),kP w.heap.size i].getD jK .none) (fun s' w'=>Blk w' w.heap.size tyI6 (iwC (r.set i (v+z)))∧Below w.heap.size w w') _ (by kernel_rfl) (by kernel_rfl) (by kernel_rfl) rfl rfl (by kernel_rfl) M ?_ ?_ ?_ ?_
   case refine_1=>
    intro s;simp only[fr,Act.put,zA,zB,zC,zD,zE,zF,Nat.reduceAdd];rfl
   case refine_2=>
    iterate 18 (refine SN ?_ ?_;rotate_left)
    exact Steps.nil;all_goals (intro L s w9 hN hU hi hS K hK;dsimp only at hK⊢;simp only[Act.put,zD,zE,zF]at hK)
    iterate 3 (go_simp;exact hS.o hK)
    ·simp only[hS.f hN 1,hS.f hN 2]at hK⊢;go_simp;exact hS.o hK
    ·simp only[hS.f hN 3]at hK⊢;have u0:=CJ _ hS.mem.bel;go_simp;exact hS.o hK
    iterate 3 (go_simp;exact hS.o hK)
    ·simp only[hS.f hN 6,hS.f hN 7]at hK⊢;go_simp;exact hS.o hK
    ·simp only[hS.f hN 8]at hK⊢;have u0:=CJ _ hS.mem.bel;go_simp;exact hS.o hK
    ·simp only[hS.f hN 5,hS.f hN 9]at hK⊢;go_simp;exact hS.o hK
    ·simp only[hS.f hN 10]at hK⊢;have u0:=CR _ hS.mem.bel;go_simp;exact hS.o hK
    iterate 2 (go_simp;exact hS.o hK)
    ·simp only[hS.f hN 12,hS.f hN 13]at hK⊢;go_simp;exact hS.o hK
    ·simp only[hS.f hN 14]at hK⊢;have u0:=CA _ hS.mem.bel;go_simp;exact hS.o hK
    ·simp only[hS.f hN 11,hS.f hN 15]at hK⊢;go_simp;exact hS.o hK
    ·simp only[hS.f hN 0,hS.f hN 4]at hK⊢;go_simp;exact hS.o hK
   case refine_3=>
    intro L s w9 hall hS K hK;dsimp only at hK⊢;simp only[Act.put,zD,zE,zF]at hK;simp only[hS.fx 17 rfl rfl (hall 17 (by decide))]at hK⊢;simp only[hS.fx 16 rfl rfl (hall 16 (by decide))]at hK⊢;refine ite_of rfl ?_;have hb9:=HRow.out.below hS.mem.bel ZL;have cr9:w9.cell? ⟨w.heap.size,i,none⟩=some (.int .i64 v):=CR _ hS.mem.bel;have hf9:=hb9.frozen i;go_simp;exact hK.out undef _ ⟨by rw[←iwC_set];exact hb9.set_ i (iw (v+z)),(bT HQ.out hS.mem.bel).setCell (p:=⟨w.heap.size,i,none⟩) (Nat.le_refl w.heap.size) _⟩
   intro s w9 hR;obtain⟨hs9,hq9⟩:=hR;have HS9:=ZH hs9;have HQ9:=ZH hq9;clear hs9 hq9;rw[←HAA.out,←HXA.out];go_wp2_with fail;go_roundg (A.length-(j+1))
   case measure=>omega
   case rel=>exact⟨j+1,r.set i (v+z),rfl,by omega,by simp,HL3.out,HN2.out,HZ2.out,HQ9.out,HS9.out⟩
  ·have d1:decide ((j:Int)<(A.length:Int))=false:=dF (by omega);have hRr:R=r:=by
    rw[HL.out,List.drop_eq_nil_of_le (by omega)];cases X.drop j<;>rfl
   have HRR:Hid (IRow wr (some ⟨w.heap.size,0,none⟩) R):=by
    show IRow _ _ _;rw[hRr];exact iwC_row HRow.out
   clear hRr HL HRN;go_wp2_with fail;exact bodyPost_ret (v:= .slice (some ⟨w.heap.size,0,none⟩) n n) (by simp[results,Tryz.results62,go_sem]) rfl ⟨_,_,rfl,HRR.out,HQ.out⟩
def putD (p:Pg)(row:List Int)(b:Int):Pg:=if row.all withinB then{p with a:=p.a++[row],b:=p.b++[b]} else p
def mostD:Int→List Int→Int
 |n,[]=>n
 |n,z::l=>mostD (if z= -1 then n+1 else n) l
def rowsD (p:Pg)(c:Cn):Pg:=
 if c.k=2 then putD p (rowP (List.replicate p.lo.length 0) 1 c.a c.x) c.c
 else if c.k=1 then putD (putD p (rowP (List.replicate p.lo.length 0) 1 c.a c.x) c.c) ((rowP (List.replicate p.lo.length 0) 1 c.a c.x).map fun z=> -z) (-c.c)
 else if c.k=11 then putD p (rowP (List.replicate p.lo.length 0) 1 (c.a.map fun z=> -z) c.x) (mostD (-1) c.a)
 else p
theorem getD_neg (row:List Int)(i:Nat):(row.map fun z=> -z).getD i 0= -(row.getD i 0):=by
 rw[gE,List.getElem?_map,gE];cases row[i]? <;>rfl
theorem rowP_opp:∀(a x row:List Int),(rowP row 1 a x).map (fun z=> -z)=rowP (row.map fun z=> -z) (-1) a x
 |[],x,row=>by cases x<;>rfl
 |a::l,[],row=>rfl
 |a::l,x::xs,row=>by
  show(rowP (row.set x.toNat (row.getD x.toNat 0+1*a)) 1 l xs).map (fun z=> -z)=rowP ((row.map fun z=> -z).set x.toNat ((row.map fun z=> -z).getD x.toNat 0+ -1*a)) (-1) l xs;rw[rowP_opp l xs,List.map_set,getD_neg];congr 2;omega
theorem rowP_neg:∀(a x row:List Int),rowP row 1 (a.map fun z=> -z) x=rowP row (-1) a x
 |[],x,row=>by cases x<;>rfl
 |a::l,[],row=>rfl
 |a::l,x::xs,row=>by
  show rowP (row.set x.toNat (row.getD x.toNat 0+1* -a)) 1 (l.map fun z=> -z) xs=rowP (row.set x.toNat (row.getD x.toNat 0+ -1*a)) (-1) l xs;rw[rowP_neg l xs];congr 2;omega
theorem mostD_P:∀(l:List Int)(n:Int),l.all unitB=true→mostD n l=mostP n l
 |[],_,_=>rfl
 |z::l,n,h=>by
  rw[List.all_cons,Bool.and_eq_true]at h;have hz:z=1∨z= -1:=by
   have h1:=h.1;unfold unitB at h1;rw[Bool.or_eq_true,beq_iff_eq,beq_iff_eq]at h1;exact h1
  show mostD (if z= -1 then n+1 else n) l=mostP (if z<0 then n+1 else n) l;rcases hz with rfl|rfl
  ·rw[if_neg (by decide),if_neg (by decide)];exact mostD_P l n h.2
  ·rw[if_pos rfl,if_pos (by decide)];exact mostD_P l (n+1) h.2
theorem zeros_neg (n:Nat):(List.replicate n (0:Int)).map (fun z=> -z)=List.replicate n 0:=by
 rw[List.map_replicate];rfl
theorem put_add (p:Pg)(c:Cn)(s most:Int):putD p (rowP (List.replicate p.lo.length 0) s c.a c.x) most=addP p c s most:=rfl
theorem addP_lo (p:Pg)(c:Cn)(s most:Int):(addP p c s most).lo=p.lo:=by
 unfold addP;split<;>rfl
theorem rows_con {doms:List (List (Int×Int))}{p:Pg}{c:Cn}(h:mayC doms c=true):rowsD p c=conP p c:=by
 unfold rowsD conP;split
 ·rfl
 ·split
  ·rw[rowP_opp,zeros_neg];have e:List.replicate p.lo.length (0:Int)=List.replicate (addP p c 1 c.c).lo.length 0:=by rw[addP_lo]
   rw[put_add];conv=>lhs;rw[e]
   exact put_add _ c (-1) (-c.c)
  ·split
   ·rename_i e;rw[rowP_neg,mostD_P c.a (-1) ?_]
    ·rfl
    ·rw[may_con]at h;unfold conD at h;simp only[Bool.and_eq_true]at h;have h1:=h.1;unfold shapeD at h1;rw[e]at h1;simp at h1;exact List.all_eq_true.2 h1.2
   ·rfl
theorem may_places {doms:List (List (Int×Int))}{c:Cn}(h:mayC doms c=true):∀y∈c.x,0≤y∧y<doms.length:=by
 rw[may_con]at h;unfold conD at h;simp only[Bool.and_eq_true]at h;obtain⟨_,_,_,_,h2,_⟩:=h;intro y hy;have:=List.all_eq_true.1 h2 y hy;unfold inD at this;simp only[Bool.and_eq_true,decide_eq_true_eq]at this;exact this
theorem ranges_in:∀(l:List (Int×Int))(p:Option Int),rangesB p l=true→∀r∈l,loD l≤r.1∧r.1≤r.2∧r.2≤hiD l
 |[],_,_,r,hr=>by cases hr
 |[x],p,h,r,hr=>by
  have h0:(rangeB p x&&true)=true:=h;unfold rangeB at h0;simp only[Bool.and_eq_true,decide_eq_true_eq]at h0;obtain rfl:=List.mem_singleton.1 hr;exact⟨Int.le_refl _,h0.1.1,Int.le_refl _⟩
 |x::y::l,p,h,r,hr=>by
  have h0:(rangeB p x&&rangesB (some x.2) (y::l))=true:=h;rw[Bool.and_eq_true]at h0;obtain⟨h1,h2⟩:=h0;have ih:=ranges_in (y::l) _ h2;have iy:=ih y List.mem_cons_self;have h4:(rangeB (some x.2) y&&rangesB (some y.2) l)=true:=h2;unfold rangeB at h1 h4;simp only[Bool.and_eq_true,decide_eq_true_eq]at h1 h4;have e1:hiD (x::y::l)=hiD (y::l):=rfl;have e2:loD (x::y::l)=x.1:=rfl;have e3:loD (y::l)=y.1:=rfl;rw[e1,e2];rw[e3]at ih iy;rcases List.mem_cons.1 hr with rfl|hr
  ·omega
  ·have:=ih r hr;omega
theorem addP_ab (p:Pg)(c:Cn)(s most:Int):(addP p c s most).a.length≤p.a.length+1∧(addP p c s most).b.length≤p.b.length+1:=by
 unfold addP;split
 ·exact⟨by simp,by simp⟩
 ·exact⟨Nat.le_succ _,Nat.le_succ _⟩
theorem may_rows {doms:List (List (Int×Int))}{c:Cn}(h:mayC doms c=true):(c.k=1∨c.k=2∨c.k=11→c.a.length=c.x.length)∧c.x.length≤32∧(∀y∈c.x,0≤y∧y<doms.length)∧c.a.all withinB=true∧withinB c.c=true:=by
 refine⟨fun hk=> ?_,?_⟩
 ·rw[may_con]at h;unfold conD at h;rw[Bool.and_eq_true]at h;have h1:=h.1;unfold shapeD at h1;rcases hk with e|e|e<;>rw[e]at h1<;>simp at h1<;>omega
 ·have hp:=may_places h;rw[may_con]at h;unfold conD at h;simp only[Bool.and_eq_true,decide_eq_true_eq]at h;exact⟨h.2.1,hp,h.2.2.2.2.2.1,h.2.2.1⟩
theorem rwcon_any {w0 w:World}{g:Nat}{m:Pa}{p:Pg}{x aa:Adr}{c:Cn}{doms:List (List (Int×Int))}(hb:Below w0.heap.size w0 w)(hc:CnAt w0 x aa c)(h:RwAt w w0.heap.size g m p)(hm:mayC doms c=true)(hd:p.lo.length=doms.length)(hn:p.lo.length≤64)(hk:p.a.length≤900)(hk2:p.b.length≤900):Calls Tryz.prog 31 #[vptr g,.agg (cnC x aa c)] w fun e w'=>e= .returned (.tuple #[])∧Below w0.heap.size w0 w'∧∃m',RwAt w' w0.heap.size g m' (conP p c)∧Kp g w w' m m':=by
 obtain⟨g1,g2,g3,g4,g5⟩:=may_rows hm;have HADD:Hid (∀(w':World)(m':Pa)(q:Pg)(s most:Int),Below w0.heap.size w0 w'→RwAt w' w0.heap.size g m' q→q.lo=p.lo→q.a.length≤950→q.b.length≤950→(s=1∨s= -1)→(c.k=1∨c.k=2∨c.k=11)→Calls Tryz.prog 60 #[vptr g,.agg (cnC x aa c),.int .i64 s,.int .i64 most] w' fun e w2=>e= .returned (.tuple #[])∧Below w0.heap.size w0 w2∧∃m2,RwAt w2 w0.heap.size g m2 (addP q c s most)∧Kp g w' w2 m' m2):=fun w' m' q s most hb' h' hlo ha hb2 hs hkk=>by
  have:=g1 hkk;exact rwadd_any hb' hc h' (by omega) (by omega) (by rw[hlo,hd];exact g3) g4 hs (by rw[hlo];omega) (by omega) (by omega)
 have HA:=ZH fun(w':World)(q:Below w0.heap.size w0 w')=>(hc.below q).a;have hgl:c.k=11→c.a.length≤1000:=fun e=>by
  have:=g1 (.inr (.inr e));omega
 have M:=(Mem.start w).new 69 (cnC x aa c);have HBM:=ZH (hb.trans (M.bel.mono hb.size));have HRM:=ZH (h.below M.bel);have HKM:=ZH (Kp.of (g:=g) m M.bel);have HOF:Hid (OffR m g w.heap.size):=⟨fun e=>by have:=h.hd.lt;omega,fun e=>by have:=(h.ap.ltBl e).2;omega,fun e=>by have:=(h.bp.ltBl e).2;omega⟩;have cc:=within_in g5;obtain⟨P',hP'⟩:∃P',conP p c=P':=⟨_,rfl⟩;rw[hP'];have HP:Hid (conP p c=P'):=hP';have HAB:=ZH (addP_ab p c 1 c.c);have HAL:=ZH (addP_lo p c 1 c.c);obtain⟨k,X,A,C⟩:=c;obtain⟨c0,c1,c2,c3⟩:=(M.k (i:=0) rfl).four;replace c0:_=some (Value.int .i64 k):=c0;replace c1:_=some (Value.slice x.1 X.length x.2):=c1;replace c2:_=some (Value.slice aa.1 A.length aa.2):=c2;replace c3:_=some (Value.int .i64 C):=c3;replace hgl:k=11→A.length≤1000:=hgl;replace cc: -1048576≤C∧C≤1048576:=cc;replace HA:Hid (∀(w':World)(q:Below w0.heap.size w0 w'),IRow w' aa.1 A):=HA;have HMC:=ZH M;clear hP' hb hc h hm g1 g2 g3 g4 g5 hd;by_cases k2:k=2
 ·have d1:(k==2)=true:=beq_iff_eq.2 k2;have HE:Hid (addP p ⟨k,X,A,C⟩ 1 C=P'):=by
   show _=_;rw[←HP.out];unfold conP;rw[if_pos k2]
  have HKK:Hid (k=1∨k=2∨k=11):= .inr (.inl k2);clear k2 hgl;go_enter Tryz.func31,Tryz.ntmps31;go_wp2_with fail;refine(HADD.out _ _ _ 1 C HBM.out HRM.out rfl (by omega) (by omega) (.inl rfl) HKK.out).mono ?_;rintro e w2 ⟨rfl,q2,m2,h2,kp2⟩;have HQ2:=ZH q2;have HR2:=ZH h2;have HK2:=ZH (HKM.out.trans kp2);clear q2 h2 kp2;go_wp2_with fail;exact⟨rfl,_,by simp[results,Tryz.results31,go_sem],rfl,HQ2.out,m2,by rw[←HE.out];exact HR2.out,HK2.out⟩
 ·have d1:(k==2)=false:=beq_false_of_ne k2;by_cases k1:k=1
  ·have d2:(k==1)=true:=beq_iff_eq.2 k1;have HE:Hid (addP (addP p ⟨k,X,A,C⟩ 1 C) ⟨k,X,A,C⟩ (-1) (-C)=P'):=by
    show _=_;rw[←HP.out];unfold conP;rw[if_neg k2,if_pos k1]
   have HKK:Hid (k=1∨k=2∨k=11):= .inl k1;have x1:IntKind.i64.wrap (-C)= -C:=by rw[IntKind.wrap_i64];omega
   have x2:wrap64 (-C)= -C:=IntWalk.wrap64_in _ ⟨by omega,by omega⟩;clear k1 k2 hgl;go_enter Tryz.func31,Tryz.ntmps31;go_wp2_with fail;refine(HADD.out _ _ _ 1 C HBM.out HRM.out rfl (by omega) (by omega) (.inl rfl) HKK.out).mono ?_;rintro e w2 ⟨rfl,q2,m2,h2,kp2⟩;have HQ2:=ZH q2;have HR2:=ZH h2;have hb2:=kp2.blk (HMC.out.k (i:=0) rfl) HOF.out;have HK2:=ZH (HKM.out.trans kp2);have c0:w2.cell? ⟨w.heap.size,0,none⟩=some (.int .i64 k):=hb2.1.four.1;have c1:w2.cell? ⟨w.heap.size,1,none⟩=some (.slice x.1 X.length x.2):=hb2.1.four.2.1;have c2:w2.cell? ⟨w.heap.size,2,none⟩=some (.slice aa.1 A.length aa.2):=hb2.1.four.2.2.1;have c3:w2.cell? ⟨w.heap.size,3,none⟩=some (.int .i64 C):=hb2.1.four.2.2.2;have hab:=HAB.out;have HQL:Hid ((addP p ⟨k,X,A,C⟩ 1 C).lo=p.lo):=HAL.out;obtain⟨q9,hq9⟩:∃q9,addP p ⟨k,X,A,C⟩ 1 C=q9:=⟨_,rfl⟩;replace hab:(addP p ⟨k,X,A,C⟩ 1 C).a.length≤p.a.length+1∧(addP p ⟨k,X,A,C⟩ 1 C).b.length≤p.b.length+1:=hab;rw[hq9]at HQL hab HR2 HE;clear q2 h2 kp2 hb2 hq9;go_wp2_with fail;refine(HADD.out _ _ _ (-1) (-C) HQ2.out HR2.out HQL.out (by omega) (by omega) (.inr rfl) HKK.out).mono ?_;rintro e w3 ⟨rfl,q3,m3,h3,kp3⟩;have HQ3:=ZH q3;have HR3:=ZH h3;have HK3:=ZH (HK2.out.trans kp3);clear q3 h3 kp3;go_wp2_with fail;exact⟨rfl,_,by simp[results,Tryz.results31,go_sem],rfl,HQ3.out,m3,by rw[←HE.out];exact HR3.out,HK3.out⟩
  ·have d2:(k==1)=false:=beq_false_of_ne k1;by_cases k3:k=11
   ·have d3:(k==11)=true:=beq_iff_eq.2 k3;have hal:=hgl k3;obtain⟨Z,hZ⟩:∃Z,mostP (-1) A=Z:=⟨_,rfl⟩;have HZ:Hid (Z=mostP (-1) (A.drop 0)):=hZ.symm;have HE:Hid (addP p ⟨k,X,A,C⟩ (-1) Z=P'):=by
     show _=_;rw[←HP.out,←hZ];unfold conP;rw[if_neg k2,if_neg k1,if_pos k3]
    have HKK:Hid (k=1∨k=2∨k=11):= .inr (.inr k3);clear k1 k2 k3 hgl hZ;go_enter Tryz.func31,Tryz.ntmps31;go_wp2_with fail;go_loopg [34,4] A.length (fun kk pp vv wr=>∃(j:Nat)(n:Int),kk=A.length-j∧j≤A.length∧pp= .int .i64 (j:Nat)∧vv= .int .i64 n∧Hid (Z=mostP n (A.drop j))∧-1≤n∧n≤j∧wr=w.alloc (.cells (cnC x aa ⟨k,X,A,C⟩) 69))
    case atStart=>exact⟨0,-1,rfl,Nat.zero_le _,rfl,rfl,HZ.out,by omega,by omega,rfl⟩
    case round=>
     clear HZ;obtain⟨j,n,hkk,hj,rfl,rfl,HL,hn1,hn2,rfl⟩:=hrel;by_cases hlt:j<A.length
     ·have d4:decide ((j:Int)<(A.length:Int))=true:=dT (by omega);have HC:Hid (Z=mostP (if A.getD j 0<0 then n+1 else n) (A.drop (j+1))):=HL.out.trans (by rw[drop_at (z:=0) hlt];rfl);obtain⟨ga,oa,haa,cj⟩:=HA.out _ HBM.out j hlt;have HAA:=ZH haa;rw[haa];replace cj:(w.alloc (.cells (cnC x aa ⟨k,X,A,C⟩) 69)).cell? ⟨ga,oa+j,none⟩=some (.int .i64 (A.getD j 0)):=cj;generalize A.getD j 0=z at*;have x1:IntKind.i64.wrap (n+1)=n+1:=by rw[IntKind.wrap_i64];omega
      have x2:wrap64 (n+1)=n+1:=IntWalk.wrap64_in _ ⟨by omega,by omega⟩;clear HL haa;by_cases hz:z<0
      ·have d5:decide (z<0)=true:=dT hz;have HC2:Hid (Z=mostP (n+1) (A.drop (j+1))):=HC.out.trans (by rw[if_pos hz]);clear HC hz;go_wp2_with fail;rw[←HAA.out];go_roundg (A.length-(j+1))
       case measure=>omega
       case rel=>exact⟨j+1,n+1,rfl,by omega,by simp,rfl,HC2.out,by omega,by omega,rfl⟩
      ·have d5:decide (z<0)=false:=dF hz;have HC2:Hid (Z=mostP n (A.drop (j+1))):=HC.out.trans (by rw[if_neg hz]);clear HC hz;go_wp2_with fail;rw[←HAA.out];go_roundg (A.length-(j+1))
       case measure=>omega
       case rel=>exact⟨j+1,n,rfl,by omega,by simp,rfl,HC2.out,by omega,by omega,rfl⟩
     ·have d4:decide ((j:Int)<(A.length:Int))=false:=dF (by omega);have HZN:Hid (Z=n):=HL.out.trans (by rw[List.drop_eq_nil_of_le (by omega)];rfl);rw[HZN.out]at HE;clear HL HZN;go_wp2_with fail;refine(HADD.out _ _ _ (-1) n HBM.out HRM.out rfl (by omega) (by omega) (.inr rfl) HKK.out).mono ?_;rintro e w3 ⟨rfl,q3,m3,h3,kp3⟩;have HQ3:=ZH q3;have HR3:=ZH h3;have HK3:=ZH (HKM.out.trans kp3);clear q3 h3 kp3;go_wp2_with fail;exact⟨rfl,_,by simp[results,Tryz.results31,go_sem],rfl,HQ3.out,m3,by rw[←HE.out];exact HR3.out,HK3.out⟩
   ·have d3:(k==11)=false:=beq_false_of_ne k3;have HE:Hid (p=P'):=by
     show _=_;rw[←HP.out];unfold conP;rw[if_neg k2,if_neg k1,if_neg k3]
    clear k1 k2 k3 hgl;go_enter Tryz.func31,Tryz.ntmps31;go_wp2_with fail;exact⟨rfl,_,by simp[results,Tryz.results31,go_sem],rfl,HBM.out,m,by rw[←HE.out];exact HRM.out,HKM.out⟩
def NewA (n:Nat)(m:Pa)(p:Pg)(m':Pa)(p':Pg):Prop:=(m'=m∧p'=p)∨∀k,bl m'.a.1=some k→n≤k
theorem NewA.trans {n n':Nat}{m m1 m2:Pa}{p p1 p2:Pg}(h:NewA n m p m1 p1)(k:NewA n' m1 p1 m2 p2)(hn:n≤n'):NewA n m p m2 p2:=by
 rcases k with ⟨rfl,rfl⟩|k
 ·exact h
 ·exact .inr fun x e=>Nat.le_trans hn (k x e)
theorem NewA.mono {n n':Nat}{m m1:Pa}{p p1:Pg}(h:NewA n m p m1 p1)(hn:n'≤n):NewA n' m p m1 p1:=by
 rcases h with h|h
 ·exact .inl h
 ·exact .inr fun x e=>Nat.le_trans hn (h x e)
theorem CRow.lt {w:World}{A:Option Addr}{n:Nat}{f:Nat→Value}(h:CRow w A n f)(hn:0<n){k:Nat}(e:bl A=some k):k<w.heap.size:=by
 obtain⟨g,o,rfl,hc⟩:=h 0 hn;injection e with e;rw[←e];exact World.block_lt_of_cell? w _ hc
theorem NewA.off {w:World}{n:Nat}{m m1:Pa}{p p1:Pg}(h:NewA n m p m1 p1)(hp:PgAt w m p){g:Nat}(h1:w.heap.size≤g)(h2:g<n)(hl:0<p1.a.length):bl m1.a.1≠some g:=fun e=>by
 rcases h with ⟨rfl,rfl⟩|h
 ·have:=hp.ap.lt hl e;omega
 ·have:=h g e;omega
theorem IRow.over {w w':World}{A:Option Addr}{l:List Int}{g:Nat}{t:TypeId}{cs:Array Value}(h:IRow w A l)(hb:Blk w g t cs)(hs:∀(i:Nat)(z:Int),cs[i]?≠some (.int .i64 z))(hg:w.grownBy w' (some g)):IRow w' A l:=fun j hj=>by
 obtain⟨gg,o,rfl,hc⟩:=h j hj;refine⟨gg,o,rfl,?_⟩;have hne:gg≠g:=fun e=>by
  subst e;rw[hb.cell (o+j)]at hc;exact hs _ _ hc
 rw[World.cell?_of_block (hg.block gg (World.block_lt_of_cell? w _ hc) (fun e=>hne (Option.some.inj e)))];exact hc
theorem PgAt.over {w w':World}{m:Pa}{p:Pg}{g:Nat}{t:TypeId}{cs:Array Value}(h:PgAt w m p)(hb:Blk w g t cs)(hs:∀(i:Nat)(z:Int),cs[i]?≠some (.int .i64 z))(hg:w.grownBy w' (some g))(hn:0<p.a.length→bl m.a.1≠some g):PgAt w' m p:=by
 refine⟨h.lo.over hb hs hg,h.hi.over hb hs hg,h.b.over hb hs hg,h.c.over hb hs hg,fun j hj=> ?_,fun i hi=>(h.ar i hi).over hb hs hg⟩;obtain⟨gg,o,e,hc⟩:=h.ap j hj;refine⟨gg,o,e,?_⟩;have hne:gg≠g:=fun e2=>hn (by omega) (by rw[e,←e2];rfl);rw[World.cell?_of_block (hg.block gg (World.block_lt_of_cell? w _ hc) (fun e=>hne (Option.some.inj e)))];exact hc
theorem no_int {a b c d e:Value}(ha:∀z,a≠.int .i64 z)(hb:∀z,b≠.int .i64 z)(hc:∀z,c≠.int .i64 z)(hd:∀z,d≠.int .i64 z)(he:∀z,e≠.int .i64 z):∀(i:Nat)(z:Int),(#[a,b,c,d,e]:Array Value)[i]?≠some (.int .i64 z):=fun i z h=>by
 match i,h with
 |0,h=>exact ha z (Option.some.inj h)
 |1,h=>exact hb z (Option.some.inj h)
 |2,h=>exact hc z (Option.some.inj h)
 |3,h=>exact hd z (Option.some.inj h)
 |4,h=>exact he z (Option.some.inj h)
 |(i+5),h=>cases h
theorem pgC_no (m:Pa)(p:Pg):∀(i:Nat)(z:Int),(pgC m p:Array Value)[i]?≠some (.int .i64 z):=no_int (fun _ e=>by cases e) (fun _ e=>by cases e) (fun _ e=>by cases e) (fun _ e=>by cases e) (fun _ e=>by cases e)
theorem info_pgD:(Tryz.prog.info? 35).map (·.size)=some 5:=by kernel_rfl
abbrev zPD:Array Value:= #[.slice none 0 0,.slice none 0 0,.slice none 0 0,.slice none 0 0,.slice none 0 0]
theorem zPD_no:∀(i:Nat)(z:Int),(zPD:Array Value)[i]?≠some (.int .i64 z):=no_int (fun _ e=>by cases e) (fun _ e=>by cases e) (fun _ e=>by cases e) (fun _ e=>by cases e) (fun _ e=>by cases e)
theorem stp_own {w w4:World}{A:Option Addr}(hA:∀k,bl A=some k→Box w k)(hgr:w.grownBy w4 (bl A)):Stp (fun k=>bl A=some k) w w4:=by
 cases hx:bl A with
 |none=>
  rw[hx]at hgr;exact⟨hgr.os,hgr.tape,hgr.output,hgr.size,fun k hk _=>hgr.block k hk (by simp),fun r=>Rd.below r ⟨hgr.os,hgr.tape,hgr.output,hgr.size,fun k hk=>hgr.block k hk (by simp)⟩ ZL⟩
 |some b=>
  rw[hx]at hgr;exact Stp.wrote (hA b hx) hgr rfl
theorem rput_any {w:World}{m:Pa}{p:Pg}{R:Adr}{row:List Int}{b:Int}(hp:PgAt w m p)(hr:IRow w R.1 row)(hl:row.length≤1000)(hz:p.a.length≤1000)(hb:p.b.length=p.a.length):Calls Tryz.prog 61 #[.agg (pgC m p),.slice R.1 row.length R.2,.int .i64 b] w fun e w'=>∃m',e= .returned (.agg (pgC m' (putD p row b)))∧PgAt w' m' (putD p row b)∧Below w.heap.size w w'∧NewA w.heap.size m p m' (putD p row b):=by
 have M:=((Mem.start w).new 35 (pgC m p)).newAt (g:=w.heap.size+1) (by simp) 35 zPD;have HP:=ZH hp;have HR:=ZH hr;have HB:=ZH hb;have HM:=ZH M;clear hp hr hb M;go_enter Tryz.func61,Tryz.ntmps61;go_wp2_with fail;go_loopg [7] row.length (fun kk pp wr=>∃j,kk=row.length-j∧j≤row.length∧pp= .int .i64 (j:Nat)∧Hid (∀z∈row.take j,withinB z=true)∧Hid (Mem w wr [(w.heap.size+1,35,zPD),(w.heap.size,35,pgC m p)] []))
 case atStart=>exact⟨0,rfl,Nat.zero_le _,rfl,fun z hz=>by simp at hz,HM.out⟩
 case round=>
  clear HM;obtain⟨j,hk,hj,rfl,HW,HM⟩:=hrel;have HQ:=ZH HM.out.bel;by_cases hlt:j<row.length
  ·have d1:decide ((j:Int)<(row.length:Int))=true:=dT (by omega);have HTK:Hid (row.take (j+1)=row.take j++[row.getD j 0]):=by
    show _=_;rw[List.take_add_one,gG hlt,gE,gG hlt];rfl
   have HIN:=ZH (memD (z:=(0:Int)) hlt);obtain⟨gl,ol,hxa,cj⟩:=(HR.out.below HQ.out) j hlt;have HXA:=ZH hxa;rw[hxa];replace cj:wr.cell? ⟨gl,ol+j,none⟩=some (.int .i64 (row.getD j 0)):=cj;generalize row.getD j 0=z at*;clear hxa;obtain⟨b2,hb2⟩:∃b,withinB z=b:=⟨_,rfl⟩;have HB2:=ZH hb2;have HWI:=ZH (fun(w':World)=>rwithin8 (w:=w') HB2.out);clear hb2;cases b2 with
   |false=>
    have HE:Hid (putD p row b=p):=by
     show _=_;unfold putD;refine if_neg fun e=> ?_;have:=List.all_eq_true.1 e z HIN.out;rw[HB2.out]at this;cases this
    clear HW HIN HTK;go_wp2_with fail;refine(HWI.out _).mono ?_;rintro e w2 ⟨rfl,q2⟩;have M2:=HM.out.below q2;obtain⟨f0,f1,f2,f3,f4⟩:=(M2.k (i:=1) rfl).fiveP;clear q2 cj;go_wp2_with ((with_reducible refine st_ ?_);refine wP2 _ _ (M2.k (i:=0) rfl) rfl rfl rfl rfl info_pgD rfl rfl ?_;intro w5 b5 g5';replace M2:=M2.row (by omega) (by simp) rfl b5 g5');obtain⟨h0,h1,h2,h3,h4⟩:=(M2.k (i:=0) rfl).fiveP;rw[HE.out];exact bodyPost_ret (v:= .agg (pgC m p)) (by simp[results,Tryz.results61,go_sem,h0,h1,h2,h3,h4]) rfl ⟨m,rfl,HP.out.below M2.bel,M2.bel,.inl ⟨rfl,rfl⟩⟩
   |true=>
    have HW2:Hid (∀z∈row.take (j+1),withinB z=true):=by
     intro y hy;rw[HTK.out,List.mem_append]at hy;rcases hy with hy|hy
     ·exact HW.out y hy
     ·rw[List.mem_singleton.1 hy];exact HB2.out
    clear HW HTK HIN;go_wp2_with fail;refine(HWI.out _).mono ?_;rintro e w2 ⟨rfl,q2⟩;have HM2:=ZH (HM.out.below q2);clear q2;go_wp2_with fail;rw[←HXA.out];go_roundg (row.length-(j+1))
    case measure=>omega
    case rel=>exact⟨j+1,rfl,by omega,by simp,HW2.out,HM2.out⟩
  ·have d1:decide ((j:Int)<(row.length:Int))=false:=dF (by omega);have HE:Hid (putD p row b={p with a:=p.a++[row],b:=p.b++[b]}):=by
    show _=_;unfold putD;refine if_pos (List.all_eq_true.2 fun z hz=>HW.out z ?_);rw[List.take_of_length_le (by omega)];exact hz
   clear HW;obtain⟨f0,f1,f2,f3,f4⟩:=(HM.out.k (i:=1) rfl).fiveP;obtain⟨W0,hW0⟩:∃W,W=wr:=⟨_,rfl⟩;subst hW0;go_wp2_with fail;go_loopg [10,8,9] p.a.length (fun kk pp v8 v9 wr=>∃(i:Nat)(A8:Option Addr)(c8:Nat)(A9:Option Addr)(c9:Nat),kk=p.a.length-i∧i≤p.a.length∧pp= .int .i64 (i:Nat)∧v8= .slice A8 i c8∧v9= .slice A9 i c9∧Hid (NRow wr W0.heap.size tyIs 1 (.slice A8 i c8) i ((rowVs m.rs p.a).take i))∧Hid (NRow wr W0.heap.size tyI6 1 (.slice A9 i c9) i ((p.b.take i).map iw))∧Hid (∀k,bl A8=some k→bl A9≠some k)∧Hid (Below W0.heap.size W0 wr))
   case atStart=>exact⟨0,none,0,none,0,rfl,Nat.zero_le _,rfl,rfl,rfl,NRow.nil _ _ _ _,NRow.nil _ _ _ _,(fun k e=>by cases e),Below.refl _ _⟩
   case round=>
    clear f0 f1 f2 f3 f4;obtain⟨i,A8,c8,A9,c9,hk2,hi,rfl,rfl,rfl,HN8,HN9,HNE,HQ2⟩:=hrel;obtain⟨f0,f1,f2,f3,f4⟩:=((HM.out.below HQ2.out).k (i:=1) rfl).fiveP;by_cases hla:i<p.a.length
    ·have d2:decide ((i:Int)<(p.a.length:Int))=true:=dT (by omega);have hib:i<p.b.length:=by rw[HB.out];exact hla
     obtain⟨ga,oa,hAA,ca⟩:=(HP.out.below HQ.out).ap i hla;obtain⟨gb,ob,hBB,cb⟩:=(HP.out.below HQ.out).b i hib;replace ca:W0.cell? ⟨ga,oa+i,none⟩=some (.slice (m.rs.getD i ad0).1 (p.a.getD i []).length (m.rs.getD i ad0).2):=ca;replace cb:W0.cell? ⟨gb,ob+i,none⟩=some (.int .i64 (p.b.getD i 0)):=cb;have CB:=Lk.of cb;have ca2:=Lk.of ca _ HQ2.out;have F3:Lk W0 w.heap.size 3 (.slice (some ⟨gb,ob,none⟩) p.a.length m.b.2):=Lk.of (by
      have:=((HM.out.k (i:=1) rfl).fiveP).2.2.2.1;rw[hBB,HB.out]at this;exact this)
     rw[hAA]at f2;have HX8:Hid ((rowVs m.rs p.a).take (i+1)=(rowVs m.rs p.a).take i++[.slice (m.rs.getD i ad0).1 (p.a.getD i []).length (m.rs.getD i ad0).2]):=by
      show _=_;rw[List.take_add_one,rowVs_at hla];rfl
     have HX9:Hid ((p.b.take (i+1)).map iw=(p.b.take i).map iw++[iw (p.b.getD i 0)]):=by
      show _=_;rw[List.take_add_one,gG hib,List.map_append,gE,gG hib];rfl
     generalize (rowVs m.rs p.a).take i=xs8 at*;generalize (p.b.take i).map iw=xs9 at*;generalize (m.rs.getD i ad0).1=RA at*;generalize (m.rs.getD i ad0).2=rc at*;generalize (p.a.getD i []).length=rl at*;generalize p.b.getD i 0=bz at*;have hi6:i≤1000000:=by omega
     have hw8:W0.heap.size≤wr.heap.size:=HQ2.out.size;clear f0 f1 f3 f4 cb ca hAA hBB hib d1;go_wp2_with (first
      |(at_builtin;refine wp_appNu _ _ wr W0.heap.size tyIs 1 (.slice A8 i c8) i xs8 #[.slice RA rl rc] (by first|rfl|simp) Tryz.underlying29 info_is rfl rfl (by decide) (by decide) HN8.out hw8 hi6 rfl rfl rfl rfl rfl rfl rfl ?_;intro v7 w7 r1 r2 r3 r4;obtain⟨A7,c7,rfl⟩:=r1.slice;rw[own_bl]at r2 r4;rw[own_bl]at r4;have HS7:=ZH (stp_own (fun k hk=>HN8.out.boxBl hk) r2);have HN97:=ZH (HN9.out.stp HS7.out (fun g hg e=>HNE.out g e hg));have HQ7:=ZH (HQ2.out.trans r3);have f3:=F3 _ HQ7.out;have cb7:=CB _ HQ7.out;have hw7:W0.heap.size≤w7.heap.size:=HQ7.out.size)
      |(at_builtin;refine wp_appNu _ _ w7 W0.heap.size tyI6 1 (.slice A9 i c9) i xs9 #[iw bz] (by first|rfl|simp) Tryz.underlying28 info_i64o rfl rfl (by decide) (by decide) HN97.out hw7 hi6 rfl rfl rfl rfl rfl rfl rfl ?_;intro v8 w8 s1 s2 s3 s4;obtain⟨A6,c6,rfl⟩:=s1.slice;rw[own_bl]at s2 s4;rw[own_bl]at s4))
     have hne7:∀k,bl A7=some k→bl A9≠some k:=fun k e e9=>by
      rcases r4 with h|h
      ·exact HNE.out k (h▸e) e9
      ·have h1:=h k e;have h2:=(HN9.out.ltBl e9).2;omega
     have hs8:=stp_own (fun k hk=>HN97.out.boxBl hk) s2;have hn78:=r1.stp hs8 (fun g hg e=>hne7 g hg e);have hne6:∀k,bl A7=some k→bl A6≠some k:=fun k e e6=>by
      rcases s4 with h|h
      ·exact hne7 k e (h▸e6)
      ·have h1:=h k e6;have h2:=(r1.ltBl e).2;omega
     go_roundg (p.a.length-(i+1))
     case measure=>omega
     case rel=>exact⟨i+1,A7,c7,A6,c6,rfl,by omega,by simp,rfl,rfl,by (show NRow _ _ _ _ _ _ _);rw[HX8.out];exact hn78,by (show NRow _ _ _ _ _ _ _);rw[HX9.out];exact s1,hne6,HQ7.out.trans s3⟩
    ·have d2:decide ((i:Int)<(p.a.length:Int))=false:=dF (by omega);have hil:i=p.a.length:=by omega
     subst hil;have HT8:Hid ((rowVs m.rs p.a).take p.a.length=rowVs m.rs p.a):=List.take_of_length_le (by unfold rowVs;simp);have HT9:Hid ((p.b.take p.a.length).map iw=p.b.map iw):=by
      show _=_;rw[List.take_of_length_le (by rw[HB.out];exact Nat.le_refl _)]
     rw[HT8.out]at HN8;rw[HT9.out]at HN9;have hi6:p.a.length≤1000000:=by omega
     have hw8:W0.heap.size≤wr.heap.size:=HQ2.out.size;clear d1;go_upto_region 15 with (first
      |(at_builtin;refine wp_appNu _ _ wr W0.heap.size tyIs 1 (.slice A8 p.a.length c8) p.a.length (rowVs m.rs p.a) #[.slice R.1 row.length R.2] (by first|rfl|simp) Tryz.underlying29 info_is rfl rfl (by decide) (by decide) HN8.out hw8 hi6 rfl rfl rfl rfl rfl rfl rfl ?_;intro v7 w7 r1 r2 r3 r4;obtain⟨A7,c7,rfl⟩:=r1.slice;rw[own_bl]at r2 r4;rw[own_bl]at r4;have HS7:=ZH (stp_own (fun k hk=>HN8.out.boxBl hk) r2);have HN97:=ZH (HN9.out.stp HS7.out (fun g hg e=>HNE.out g e hg));have HQ7:=ZH (HQ2.out.trans r3);have hw7:W0.heap.size≤w7.heap.size:=HQ7.out.size)
      |(at_builtin;refine wp_appNu _ _ w7 W0.heap.size tyI6 1 (.slice A9 p.a.length c9) p.a.length (p.b.map iw) #[iw b] (by first|rfl|simp) Tryz.underlying28 info_i64o rfl rfl (by decide) (by decide) HN97.out hw7 hi6 rfl rfl rfl rfl rfl rfl rfl ?_;intro v8 w8 s1 s2 s3 s4;obtain⟨A6,c6,rfl⟩:=s1.slice;rw[own_bl]at s2 s4;rw[own_bl]at s4))
     have hne7:∀k,bl A7=some k→bl A9≠some k:=fun k e e9=>by
      rcases r4 with h|h
      ·exact HNE.out k (h▸e) e9
      ·have h1:=h k e;have h2:=(HN9.out.ltBl e9).2;omega
     have HN7:=ZH (r1.stp (stp_own (fun k hk=>HN97.out.boxBl hk) s2) (fun g hg e=>hne7 g hg e));have HN6:=ZH s1;have HQ8:=ZH (HQ7.out.trans s3);have HM8:=ZH (HM.out.below HQ8.out);clear r1 r2 r3 r4 s1 s2 s3 s4 hne7 f0 f1 f2 f3 f4;obtain⟨f0,f1,f2,f3,f4⟩:=(HM8.out.k (i:=1) rfl).fiveP;have z2:=(HM8.out.k (i:=1) rfl).frozen 2;have z3:=(HM8.out.k (i:=1) rfl).frozen 3;have HBZ:Hid (Blk ((w8.setCell ⟨w.heap.size,2,none⟩ (.slice A7 (p.a.length+1) c7)).setCell ⟨w.heap.size,3,none⟩ (.slice A6 (p.a.length+1) c6)) (w.heap.size+1) 35 zPD):=((HM8.out.k (i:=0) rfl).far (show w.heap.size+1≠w.heap.size by omega) _).far (show w.heap.size+1≠w.heap.size by omega) _;have HQZ:=ZH ((HM8.out.bel.setCell (p:=⟨w.heap.size,2,none⟩) (Nat.le_refl w.heap.size) (.slice A7 (p.a.length+1) c7)).setCell (p:=⟨w.heap.size,3,none⟩) (Nat.le_refl w.heap.size) (.slice A6 (p.a.length+1) c6));go_wp2_with ((with_reducible refine st_ ?_);refine wP2 _ _ HBZ.out rfl rfl rfl rfl info_pgD rfl rfl ?_;intro w5 b5 g5');obtain⟨h0,h1,h2,h3,h4⟩:=b5.fiveP;have HQ5:=ZH (HQZ.out.grown g5' HQZ.out.size (fun k e=>by injection e with e;rw[←e];exact Nat.le_succ _));have ha:(p.a++[row]).length=p.a.length+1:=by rw[List.length_append];rfl
     have hb1:(p.b++[b]).length=p.a.length+1:=by rw[List.length_append,HB.out];rfl
     refine bodyPost_ret (v:= .agg #[.slice m.lo.1 p.lo.length m.lo.2,.slice m.hi.1 p.hi.length m.hi.2,.slice A7 (p.a.length+1) c7,.slice A6 (p.a.length+1) c6,.slice m.c.1 p.c.length m.c.2]) (by simp[results,Tryz.results61,go_sem,h0,h1,h2,h3,h4]) rfl ?_;rw[HE.out];refine⟨{m with a:=(A7,c7),b:=(A6,c6),rs:=(List.range p.a.length).map (fun i=>m.rs.getD i ad0)++[R]},?_,?_,HQ5.out,.inr fun k e=>Nat.le_trans HM.out.bel.size (HN7.out.ltBl e).1⟩
     ·show _=Ending.returned (.agg #[_,_,.slice A7 (p.a++[row]).length c7,.slice A6 (p.b++[b]).length c6,_]);rw[ha,hb1]
     ·have k1:=(HM8.out.k (i:=1) rfl);have hlt0:=(HM.out.k (i:=0) rfl).lt;have t1:Stp (fun k=>k<W0.heap.size) w8 (w8.setCell ⟨w.heap.size,2,none⟩ (.slice A7 (p.a.length+1) c7)):=(Stp.wrote (S:=fun k=>k=w.heap.size) (k1.box rfl) (gSC w8 w.heap.size 2 _) rfl).mono (fun k e=>by omega);have t2:Stp (fun k=>k<W0.heap.size) (w8.setCell ⟨w.heap.size,2,none⟩ (.slice A7 (p.a.length+1) c7)) ((w8.setCell ⟨w.heap.size,2,none⟩ (.slice A7 (p.a.length+1) c7)).setCell ⟨w.heap.size,3,none⟩ (.slice A6 (p.a.length+1) c6)):=(Stp.wrote (S:=fun k=>k=w.heap.size) ((k1.set_ 2 _).box rfl) (gSC _ w.heap.size 3 _) rfl).mono (fun k e=>by omega);have t3:Stp (fun k=>k<W0.heap.size) _ w5:=(Stp.grew (HBZ.out.box rfl) g5').mono (fun k e=>by omega);have t:=(t1.trans t2).trans t3;have n7:=HN7.out.stp t (fun g hg h=>by have:=(HN7.out.ltBl hg).1;omega);have n6:=HN6.out.stp t (fun g hg h=>by have:=(HN6.out.ltBl hg).1;omega);have gr:∀i,i<p.a.length+1→((List.range p.a.length).map (fun i=>m.rs.getD i ad0)++[R]).getD i ad0=if i<p.a.length then m.rs.getD i ad0 else R:=fun i hi=>by
       rw[getD_app (by rw[List.length_map,List.length_range];exact hi),List.length_map,List.length_range];split
       ·rename_i h;rw[gE,List.getElem?_map,List.getElem?_range h];rfl
       ·rfl
      refine⟨HP.out.lo.below HQ5.out,HP.out.hi.below HQ5.out,?_,HP.out.c.below HQ5.out,?_,?_⟩
      ·refine IRow.own (base:=W0.heap.size) (c:=c6) ?_;rw[hb1,List.map_append];exact n6
      ·show CRow w5 A7 (p.a++[row]).length _;rw[ha];refine n7.crow fun k hk=> ?_;show _=some (Value.slice (((List.range p.a.length).map (fun i=>m.rs.getD i ad0)++[R]).getD k ad0).1 ((p.a++[row]).getD k []).length (((List.range p.a.length).map (fun i=>m.rs.getD i ad0)++[R]).getD k ad0).2);have hrl:(rowVs m.rs p.a).length=p.a.length:=by unfold rowVs;simp
       rw[gr k hk,getD_app hk];split
       ·rename_i h;rw[List.getElem?_append_left (by rw[hrl];exact h),rowVs_at h]
       ·have e:k=p.a.length:=by omega
        rw[List.getElem?_append_right (by rw[hrl];omega),hrl,e,Nat.sub_self];rfl
      ·intro k hk;replace hk:k<(p.a++[row]).length:=hk;rw[ha]at hk;show IRow w5 (((List.range p.a.length).map (fun i=>m.rs.getD i ad0)++[R]).getD k ad0).1 ((p.a++[row]).getD k []);rw[gr k hk,getD_app hk];split
       ·rename_i h;exact(HP.out.ar k h).below HQ5.out
       ·exact HR.out.below HQ5.out
end Go.Proofs.YtecfcjdgmpopjaaGreat

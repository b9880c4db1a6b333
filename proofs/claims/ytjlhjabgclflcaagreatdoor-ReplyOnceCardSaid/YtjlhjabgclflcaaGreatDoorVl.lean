/-
  Joined texts: FrameI, Vk, Vl.
-/
import Derived.Test.YtjlhjabgclflcaaGreatDoorFrame
import Derived.Test.YtjlhjabgclflcaaGreatDoorVi
import Derived.Lib.SmallJoins
import Derived.Deep.Slices
import Derived.LaidMore
import Derived.MakeChecks
import Derived.Test.YtjlhjabgclflcaaGreatDoorVj
set_option linter.unusedVariables false
namespace Go.Proofs.YtjlhjabgclflcaaGreatDoor
open Go.ChangeShapes Go.WideShapes Go.ChangeAt Go.RowKit Go.Joins Go.Deep Num
theorem range_of {n:Int} (h:(Lit.int .i64 n).wf=true):I64 n:=by
 simp only[Lit.wf,Bool.and_eq_true,decide_eq_true_eq]at h;exact ⟨h.1,h.2⟩
theorem open_lay {H:Type} {enc:TypeId×Value→H} {W:World} {α:Type} (L:Lay α) (Q:α→Prop) (d:α) {t:TypeId} (ht:Tryz.prog.underlying t=some (.slice L.ty)) (hsz:Tryz.prog.cellsOf L.ty=L.sz) (hpos:0<L.sz) (hel:∀(n:Nat) (cs:List Value) (y:DataW H×List MemPlace),DataW.trod enc Tryz.prog W 0 (fun _=>true) true n L.ty cs=some y→cs.length=L.sz→∃a:α,Q a∧∀k,k<L.sz→∃x,cs[k]? =some x∧(L.C k).P (fun _=>True) W x a) {fuel:Nat} {cs:List Value} {x:DataW H×List MemPlace} (h:DataW.trod enc Tryz.prog W 0 (fun _=>true) true fuel t cs=some x):∃(A:Option Addr) (l:List α) (c:Nat),cs=[.slice A l.length c]∧L.row.P (fun _=>True) W (.slice A l.length c) l∧(∀a∈l,Q a)∧(A=none→c=0):=by
 rcases open_slice ht h with ⟨hcs,_⟩|⟨a,len,cap,m,n,D,Pl,hcs,_,hl,hm,hmm,_,hi⟩
 ·exact ⟨none,[],0,hcs,Lay.row_nil (Nat.zero_le _),(fun _ h=>absurd h List.not_mem_nil),fun _=>rfl⟩
 ·rw[hsz]at hi;simp only[if_true]at hmm;subst hmm;by_cases h0:len=0
  ·subst h0;exact ⟨some a,[],m,hcs,Lay.row_nil hm,(fun _ h=>absurd h List.not_mem_nil),fun h=>by cases h⟩
  obtain ⟨b,o,spot⟩:=a;obtain ⟨cs0,hc0,_⟩:=hi 0 (by omega);have hspot:spot=none:=by
   obtain ⟨_,hl0,hcell⟩:=World.cells?_some hc0;have h1:=hcell 0 hpos;rw[List.getElem?_eq_getElem (by omega:0<cs0.length)]at h1;have:=World.cell?_spot h1;simpa[Addr.add]using this
  subst hspot;have hadd:∀o k,(⟨b,o,none⟩:Addr).add k=⟨b,o+k,none⟩:=fun o k=>by simp[Addr.add]
  have hex:∀i,∃t:α,i<len→Q t∧∀k,k<L.sz→∃x,W.cell? ⟨b,o+i*L.sz+k,none⟩=some x∧(L.C k).P (fun _=>True) W x t:=by
   intro i;by_cases hil:i<len
   ·obtain ⟨cs',hc,ht⟩:=hi i (by omega);obtain ⟨_,hl4,hcell⟩:=World.cells?_some hc;obtain ⟨t,hq,hk⟩:=hel _ cs' _ ht hl4;refine ⟨t,fun _=>⟨hq,fun k hk'=> ?_⟩⟩;obtain ⟨x,hx,hp⟩:=hk k hk';have:=hcell k hk';rw[hadd,hadd]at this;exact ⟨x,this.trans hx,hp⟩
   ·exact ⟨d,fun h=>absurd h hil⟩
  let f:Nat→α:=fun i=>(hex i).choose;have hf:∀i,i<len→Q (f i)∧∀k,k<L.sz→∃x,W.cell? ⟨b,o+i*L.sz+k,none⟩=some x∧(L.C k).P (fun _=>True) W x (f i):=fun i h=>(hex i).choose_spec h;have hlen:((List.range len).map f).length=len:=by simp
  refine ⟨some ⟨b,o,none⟩,(List.range len).map f,m,by rw[hlen];exact hcs,⟨_,_,rfl,by rw[hlen];exact hl,hm,fun _=>⟨b,o,rfl,trivial,?_,fun j hj=> ?_⟩⟩,(fun a ha=> ?_),fun h=>by cases h⟩
  ·obtain ⟨x,hx,_⟩:=(hf 0 (by omega)).2 0 hpos;exact World.block_lt_of_cell? W _ hx
  ·rw[hlen]at hj;have e:((List.range len).map f)[j]'(by simpa using hj)=f j:=by simp
   rw[e];exact (hf j hj).2
  ·obtain ⟨i,hi',rfl⟩:=List.mem_map.1 ha;exact (hf i (List.mem_range.1 hi')).1
end Go.Proofs.YtjlhjabgclflcaaGreatDoor
set_option maxHeartbeats 4000000
set_option maxRecDepth 100000
set_option linter.unusedSimpArgs false
set_option linter.unusedVariables false
namespace Go.Proofs.YtjlhjabgclflcaaGreatDoor
open Go.RowKit Num Go.Joins
theorem nameB_no {s:List UInt8} {l:List Tok} {p:Nat} {e:Int} (h:splitR s=(l,p,e)) (hn:∀t,l=[t]→e=0→t.k=1→t.t=s→False):nameB s=false:=by
 unfold nameB;rw[h];match l,hn with
 |[],_=>rfl
 |[t],hn=>
  have:(e==0&&(t.k==1&&t.t==s))=false:=by
   cases hc:(e==0&&(t.k==1&&t.t==s)) with
   |false=>rfl
   |true=>
    simp only[Bool.and_eq_true,beq_iff_eq]at hc;exact (hn t rfl hc.1 hc.2.1 hc.2.2).elim
  show ((e==0&&(t.k==1&&t.t==s))&&_)=false;rw[this];rfl
 |_::_::_,_=>rfl
theorem nameB_if {s:List UInt8} {t:Tok} {p:Nat} (h:splitR s=([t],p,0)) (h1:t.k=1) (h2:t.t=s):nameB s=((textP (wSolMin++s++[59])).2.2==0):=by
 unfold nameB;rw[h];show (((0:Int)==0&&(t.k==1&&t.t==s))&&_)=_;simp[h1,h2]
theorem split_big {s:List UInt8} {l:List Tok} {p:Nat} (h:splitR s=(l,p,0)):s.length≤8192:=by
 by_cases hb:8192<s.length
 ·unfold splitR at h;rw[if_pos hb]at h;injection h with _ h;injection h with _ h;exact absurd h (by decide)
 ·omega
theorem sol4 {s:List UInt8} {m:List Tok} (hm:m.map stripT=[aSolve,aMin,(1,s,0),aSemi]):isP wSolve m=true∧∀x l3 l4 u,itemP m= .ok x l3→takeP [59] l3= .ok u l4→l4=[]:=by
 match m,hm with
 |[⟨k1,t1,v1,p1⟩,⟨k2,t2,v2,p2⟩,⟨k3,t3,v3,p3⟩,⟨k4,t4,v4,p4⟩],hm=>
  injection hm with e1 hm;injection hm with e2 hm;injection hm with e3 hm;injection hm with e4 _;obtain ⟨a1,a2,a3⟩:k1=1∧t1=wSolve∧v1=0:=by injection e1 with a b;injection b with b c;exact ⟨a,b,c⟩
  obtain ⟨b1,b2,b3⟩:k2=1∧t2=wMinimize∧v2=0:=by injection e2 with a b;injection b with b c;exact ⟨a,b,c⟩
  obtain ⟨c1,c2,c3⟩:k4=3∧t4=[59]∧v4=0:=by injection e4 with a b;injection b with b c;exact ⟨a,b,c⟩
  subst a1 a2 a3 b1 b2 b3 c1 c2 c3;clear e1 e2 e3 e4 hm;refine ⟨rfl,fun x l3 l4 u h1 h2=> ?_⟩;have e:itemP [⟨1,wSolve,0,p1⟩,⟨1,wMinimize,0,p2⟩,⟨k3,t3,v3,p3⟩,⟨3,[59],0,p4⟩]=pbind nameP (fun nm=>pret (⟨6,nm,false,[],0,false,[],1⟩:It)) [⟨k3,t3,v3,p3⟩,⟨3,[59],0,p4⟩]:=rfl;rw[e]at h1;unfold pbind nameP at h1;by_cases hk:kindP [(⟨k3,t3,v3,p3⟩:Tok),⟨3,[59],0,p4⟩]=1
  ·rw[if_pos hk]at h1;obtain ⟨_,rfl⟩:_∧[(⟨3,[59],0,p4⟩:Tok)]=l3:=by injection h1 with a b;exact ⟨a,b⟩
   have e2:takeP [59] [(⟨3,[59],0,p4⟩:Tok)]= .ok () []:=rfl;rw[e2]at h2;injection h2 with _ h2;exact h2.symm
  ·rw[if_neg hk]at h1;cases h1
theorem sol_m {s:List UInt8} {t:Tok} {p:Nat} (h:splitR s=([t],p,0)) (h1:t.k=1) (h2:t.t=s):∃m:List Tok,m.map stripT=[aSolve,aMin,(1,s,0),aSemi]∧((splitR (wSolMin++s++[59])).2.2=0→(splitR (wSolMin++s++[59])).1=m):=by
 obtain ⟨ts,e1,e2,_,_,_⟩:=splitR_ok (l:=s) (by rw[h]);rw[h]at e2;have ha:=toks_alone _ _ (Nat.le_refl _) ts e1 (stripT t) (by rw[←e2];exact List.mem_cons_self);unfold stripT at ha;rw[h1,h2]at ha;have hv:=alone_val ha (by decide);rw[hv]at ha;have hsp:=(sol_spell ha).toks;by_cases hz:(splitR (wSolMin++s++[59])).2.2=0
 ·obtain ⟨ts2,k1,k2,_⟩:=splitR_ok hz;rw[hsp.1,hsp.2]at k1;obtain rfl:=Option.some.inj k1;exact ⟨_,k2,fun _=>rfl⟩
 ·exact ⟨[aSolve,aMin,(1,s,0),aSemi].map bare,strip_bare _,fun h=>absurd h hz⟩
theorem vname_any (s:ByteArray) (w:World) (hE:Env w):Calls Tryz.prog 108 #[.string s] w fun e w'=>e= .returned (.bool (nameB s.data.toList))∧Below w.heap.size w w':=by
 go_enter Tryz.func108,Tryz.ntmps108;go_wp2_with fail;refine (split_any s w hE.err).mono ?_;rintro e w1 h1;obtain ⟨A,c,rfl,hA,q1⟩:=h1.rd;clear h1;have hE1:=hE.err.below q1;cases hr:splitR s.data.toList with
 |mk l pe=>
  obtain ⟨p,er⟩:=pe;rw[hr]at hA;dsimp only at*;cases he:(er==0) with
  |false=>
   have he0:er≠0:=fun h=>by subst h;exact Bool.noConfusion he
   have hf:=Lib.hid (nameB_no hr fun t _ h _ _=>he0 h);clear hr hA;go_wp2_with fail;go_ret;exact ⟨by rw[hf.out];rfl,q1⟩
  |true=>
   obtain rfl:er=0:=eq_of_beq he;clear he;match l,hr,hA with
   |[],hr,hA=>
    have hf:=Lib.hid (nameB_no hr fun t h _ _ _=>by cases h);clear hr hA;go_wp2_with fail;go_ret;exact ⟨by rw[hf.out];rfl,q1⟩
   |t1::t2::l,hr,hA=>
    have hf:=Lib.hid (nameB_no hr fun t h _ _ _=>by cases h);clear hr hA;have hn:(((t1::t2::l).length:Int)==1)=false:=by
     cases h:(((t1::t2::l).length:Int)==1) with
     |false=>rfl
     |true=>
      have:=eq_of_beq h;simp only[List.length_cons]at this;omega
    generalize (t1::t2::l).length=n at*;have hn0:¬(n:Int)=1:=fun h=>by rw[h]at hn;exact Bool.noConfusion hn
    go_wp2_with fail;go_ret;exact ⟨by rw[hf.out];rfl,q1⟩
   |[t],hr,hA=>
    obtain ⟨b,o,hA1,hlt,hc⟩:=hA.at_ (by simp);subst hA1;obtain ⟨c1,c2,c3,c4⟩:=hc 0 (by simp);rw[Nat.zero_mul,Nat.add_zero]at c1 c2 c3 c4;have hbg:=split_big hr;clear hc hA;cases hk:(t.k==1) with
    |false=>
     have hk0:¬t.k=1:=fun h=>by rw[h]at hk;exact Bool.noConfusion hk
     have hf:=Lib.hid (nameB_no hr fun t2 h _ h2 _=>by injection h with h;subst h;rw[h2]at hk;exact Bool.noConfusion hk);clear hr;go_wp2_with fail;go_ret;exact ⟨by rw[hf.out];rfl,q1⟩
    |true=>
     have hk1:t.k=1:=eq_of_beq hk;by_cases hs:t.t=s.data.toList
     ·have hs2:t.t=s.toList:=by rw[ByteArray.toList_eq];exact hs
      have hf:=Lib.hid (nameB_if hr hk1 hs);have hz:s.size≤8192:=by simpa using hbg
      have hz1:¬9223372036854775807<15+s.size:=by omega
      have hz2:¬9223372036854775807<15+s.size+1:=by omega
      have HR0:=Lib.hid hr;have HK0:=Lib.hid hk1;have HS0:=Lib.hid hs;clear hr hbg;go_wp2_with fail;clear hz1 hz2;generalize hX:((⟨#[115,111,108,118,101,32,109,105,110,105,109,105,122,101,32]⟩:ByteArray)++s++⟨#[59]⟩)=X;have hx:X.data.toList=wSolMin++s.data.toList++[59]:=by
       rw[←hX];simp[wSolMin]
      have hxs:X.size≤1000000:=by
       have h1:X.data.toList.length=X.size:=by simp
       have h2:(wSolMin++s.data.toList++[59]).length=s.size+16:=by simp[wSolMin]
       rw[←h1,hx,h2];omega
      clear hX;obtain ⟨m,hm1,hm2⟩:=sol_m HR0.out HK0.out HS0.out;obtain ⟨hm3,hm4⟩:=sol4 hm1;refine (ptext_sol X w1 hE1 hxs m hm3 hm4 (by rw[hx];exact hm2)).mono ?_;rintro e w2 ⟨A2,c2,rfl,hv,q2⟩;rw[hx]at*;clear hv;generalize textP (wSolMin++s.data.toList++[59])=R at*;obtain ⟨xs,at_,er⟩:=R;dsimp only at*;go_wp2_with fail;go_ret;exact ⟨by rw[hf.out];rfl,below_trans q1 q2⟩
     ·have hs2:(t.t==s.toList)=false:=beq_false_of_ne (by rw[ByteArray.toList_eq];exact hs);have hf:=Lib.hid (nameB_no hr fun t2 h _ _ h2=>by
       injection h with h;subst h;exact hs h2)
      clear hr;go_wp2_with fail;go_ret;exact ⟨by rw[hf.out];rfl,q1⟩
end Go.Proofs.YtjlhjabgclflcaaGreatDoor
set_option maxHeartbeats 4000000
set_option maxRecDepth 100000
set_option linter.unusedSimpArgs false
set_option linter.unusedVariables false
namespace Go.Proofs.YtjlhjabgclflcaaGreatDoor
open Go.RowKit Num Go.Joins
def TXV (r:TX):Value:= .tuple #[.string ⟨r.1.toArray⟩,.bool r.2]
theorem vplain_any (k n:Int) (s:List UInt8) (m c:Nat) (A:Option Addr) (hn:I64 n) (w:World) (hE:Env w):Calls Tryz.prog 105 #[.agg #[.int .i64 k,.int .i64 n,.string ⟨s.toArray⟩,.slice A m c]] w fun e w'=>e= .returned (TXV (plain0S ⟨k,n,s,m⟩))∧Below w.heap.size w w':=by
 have q0:=below_alloc1 w (.cells #[.int .i64 k,.int .i64 n,.string ⟨s.toArray⟩,.slice A m c] 159);have hE1:=hE.below q0;have b0:Blk (w.alloc (.cells #[.int .i64 k,.int .i64 n,.string ⟨s.toArray⟩,.slice A m c] 159)) w.heap.size 159 #[.int .i64 k,.int .i64 n,.string ⟨s.toArray⟩,.slice A m c]:=Blk.new ..;rcases Nat.eq_zero_or_pos m with hm|hm
 ·subst hm;by_cases c1:k=1
  ·subst c1;cases s with
   |nil=>
    have hf:plain0S ⟨1,n,[],0⟩=(Lib.itoa n,true):=rfl;have HF:=Lib.hid hf;clear hf;go_enter Tryz.func105,Tryz.ntmps105;go_wp2_with fail;refine (vnum_any n hn _ hE1).mono ?_;rintro e w1 ⟨rfl,q1⟩;go_wp2_with fail;refine bodyPost_ret (v:=TXV ((Lib.itoa n),true)) (by simp[results,Tryz.results105,go_sem,TXV,wTrue,wFalse]) rfl ?_;exact ⟨by rw[HF.out],below_trans q0 q1⟩
   |cons a r=>
    have hf:plain0S ⟨1,n,a::r,0⟩=([],false):=by
     unfold plain0S;simp
    have hs:((a::r)==(ByteArray.toList ⟨#[]⟩))=false:=by rw[ByteArray.toList_eq];rfl
    have HF:=Lib.hid hf;clear hf;go_enter Tryz.func105,Tryz.ntmps105;go_wp2_with fail;refine bodyPost_ret (v:=TXV ([],false)) (by simp[results,Tryz.results105,go_sem,TXV,wTrue,wFalse]) rfl ?_;exact ⟨by rw[HF.out],q0⟩
  ·by_cases c2:k=2
   ·subst c2;cases s with
    |nil=>
     by_cases n1:n=1
     ·subst n1;have HF:=Lib.hid (show plain0S ⟨2,1,[],0⟩=(wTrue,true) from rfl);go_enter Tryz.func105,Tryz.ntmps105;go_wp2_with fail;refine bodyPost_ret (v:=TXV (wTrue,true)) (by simp[results,Tryz.results105,go_sem,TXV,wTrue,wFalse]) rfl ?_;exact ⟨by rw[HF.out],q0⟩
     ·by_cases n0:n=0
      ·subst n0;have HF:=Lib.hid (show plain0S ⟨2,0,[],0⟩=(wFalse,true) from rfl);go_enter Tryz.func105,Tryz.ntmps105;go_wp2_with fail;refine bodyPost_ret (v:=TXV (wFalse,true)) (by simp[results,Tryz.results105,go_sem,TXV,wTrue,wFalse]) rfl ?_;exact ⟨by rw[HF.out],q0⟩
      ·have HF:=Lib.hid (show plain0S ⟨2,n,[],0⟩=([],false) by unfold plain0S;simp[n1,n0]);go_enter Tryz.func105,Tryz.ntmps105;go_wp2_with fail;refine bodyPost_ret (v:=TXV ([],false)) (by simp[results,Tryz.results105,go_sem,TXV,wTrue,wFalse]) rfl ?_;exact ⟨by rw[HF.out],q0⟩
    |cons a r=>
     have hs:((a::r)==(ByteArray.toList ⟨#[]⟩))=false:=by rw[ByteArray.toList_eq];rfl
     have HF:=Lib.hid (show plain0S ⟨2,n,a::r,0⟩=([],false) by unfold plain0S;simp);go_enter Tryz.func105,Tryz.ntmps105;go_wp2_with fail;refine bodyPost_ret (v:=TXV ([],false)) (by simp[results,Tryz.results105,go_sem,TXV,wTrue,wFalse]) rfl ?_;exact ⟨by rw[HF.out],q0⟩
   ·by_cases c3:k=3
    ·subst c3;by_cases n0:n=0
     ·subst n0;go_enter Tryz.func105,Tryz.ntmps105;go_wp2_with fail;refine (vname_any ⟨s.toArray⟩ _ hE1).mono ?_;rintro e w1 ⟨rfl,q1⟩;have b1:=b0.below q1 (Nat.le_refl _);obtain ⟨r1,r2,r3,r4⟩:=b1.four;have hd:nameB (⟨s.toArray⟩:ByteArray).data.toList=nameB s:=rfl;rw[hd];cases hb:nameB s with
      |true=>
       have HF:=Lib.hid (show plain0S ⟨3,0,s,0⟩=(s,true) by unfold plain0S;simp[hb]);go_wp2_with fail;refine bodyPost_ret (v:=TXV (s,true)) (by simp[results,Tryz.results105,go_sem,TXV,wTrue,wFalse]) rfl ?_;exact ⟨by rw[HF.out],below_trans q0 q1⟩
      |false=>
       have HF:=Lib.hid (show plain0S ⟨3,0,s,0⟩=([],false) by unfold plain0S;simp[hb]);go_wp2_with fail;refine bodyPost_ret (v:=TXV ([],false)) (by simp[results,Tryz.results105,go_sem,TXV,wTrue,wFalse]) rfl ?_;exact ⟨by rw[HF.out],below_trans q0 q1⟩
     ·have HF:=Lib.hid (show plain0S ⟨3,n,s,0⟩=([],false) by unfold plain0S;simp[n0]);go_enter Tryz.func105,Tryz.ntmps105;go_wp2_with fail;refine bodyPost_ret (v:=TXV ([],false)) (by simp[results,Tryz.results105,go_sem,TXV,wTrue,wFalse]) rfl ?_;exact ⟨by rw[HF.out],q0⟩
    ·have HF:=Lib.hid (show plain0S ⟨k,n,s,0⟩=([],false) by unfold plain0S;simp[c1,c2,c3]);go_enter Tryz.func105,Tryz.ntmps105;go_wp2_with fail;refine bodyPost_ret (v:=TXV ([],false)) (by simp[results,Tryz.results105,go_sem,TXV,wTrue,wFalse]) rfl ?_;exact ⟨by rw[HF.out],q0⟩
 ·have hm1:¬m=0:=by omega
  have hm2:(0:Int)<m:=by omega
  have hf:plain0S ⟨k,n,s,m⟩=([],false):=if_pos hm;have HF:=Lib.hid hf;clear hf;go_enter Tryz.func105,Tryz.ntmps105;go_wp2_with fail;refine bodyPost_ret (v:=TXV ([],false)) (by simp[results,Tryz.results105,go_sem,TXV,wTrue,wFalse]) rfl ?_;exact ⟨by rw[HF.out],q0⟩
end Go.Proofs.YtjlhjabgclflcaaGreatDoor

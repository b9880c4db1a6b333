/-
  Joined texts: NatN, NatO, Dec, Bytes.
-/
import Derived.Test.YtecfcjdgmpopjaaGreatNatM
import Derived.Test.YtecfcjdgmpopjaaGreatLongP
import Derived.RegionTactic
import Derived.BigRegion
import Derived.StillTailTactics
import Derived.Test.YtecfcjdgmpopjaaGreatNum
import Derived.Test.YtecfcjdgmpopjaaGreatBase
import Derived.Laws.IdiomStrings
import Derived.Maps.AppendAt
set_option maxHeartbeats 1000000
set_option maxRecDepth 100000
namespace Go.Proofs.YtecfcjdgmpopjaaGreat
open Go.RowKit Num
theorem at0_take {xs:List Nat}{n i:Nat}(h:i<n):at0 (xs.take n) i=at0 xs i:=by
 unfold at0;rw[gE,gE,List.getElem?_take,if_pos h]
theorem guess_use {A B:Option Addr}{c d N M:Nat}{us vs:List Nat}{w:World}(ha:Rd w A c us)(hb:Rd w B d vs)(hN:us.length=N)(hM:vs.length=M)(hu:3≤N)(hv:2≤M)(hs:N≤100000)(ht:M≤100000)(hpos:0<at0 vs (M-1))(hle:at0 us (N-1)≤at0 vs (M-1)):Calls Tryz.prog 212 #[.slice A N c,.slice B M d] w fun e w'=>(∃q:Nat,e= .returned (.int .u64 q)∧GuessOk (at0 us (N-1)) (at0 us (N-2)) (at0 us (N-3)) (at0 vs (M-1)) (at0 vs (M-2)) q)∧Read w w':=by
 subst hN hM;exact guess_any A B c d us vs w ha hb hu hv hs ht hpos hle
theorem less_use {B:Option Addr}{d g j n cap M:Nat}{us vs:List Nat}{q:Nat}{w:World}(hr:Row w g us)(ho:Ok us)(hb:Rd w B d vs)(hne:Off B g)(hn:us.length=j+n)(hM:vs.length=M)(hm:M<n)(hv:0<M)(hq:q<4294967296)(hs:us.length≤100000):Calls Tryz.prog 213 #[.slice (some ⟨g,j,none⟩) n cap,.slice B M d,.int .u64 q] w fun e w'=>(∃(us':List Nat)(bo:Nat),e= .returned (.bool ((bo:Int) !=0))∧LessEnd us (val vs) j M q us' bo∧Row w' g us')∧w.grownBy w' (some g):=by
 subst hM;exact less2_any B d g j n cap us vs q w hr ho hb hne hn hm hv hq hs
theorem again_use {B:Option Addr}{d g j n cap M:Nat}{us vs:List Nat}{w:World}(hr:Row w g us)(ho:Ok us)(hb:Rd w B d vs)(hne:Off B g)(hn:us.length=j+n)(hM:vs.length=M)(hm:M<n)(hv:0<M)(hs:us.length≤100000):Calls Tryz.prog 214 #[.slice (some ⟨g,j,none⟩) n cap,.slice B M d] w fun e w'=>(e= .returned (.tuple #[])∧∃us',AgainEnd us (val vs) j M us'∧Row w' g us')∧w.grownBy w' (some g):=by
 subst hM;exact again_any B d g j n cap us vs w hr ho hb hne hn hm hv hs
theorem trim_row {w:World}{g n:Nat}{os:List Nat}(hr:Row w g os)(ho:Ok os)(hn:os.length=n)(hs:n≤100000):Calls Tryz.prog 155 #[.slice (some ⟨g,0,none⟩) n n] w fun e w'=>(e= .returned (.slice (some ⟨g,0,none⟩) (dig (val os)).length n)∧Rd w (some ⟨g,0,none⟩) n (dig (val os)))∧w=w':=by
 subst hn;have hrd:=hr.rd ho (by omega);exact(trim_any _ _ _ w hrd (by omega)).mono fun e w2 ⟨h1,h2⟩=>⟨trim_use h1 hrd,h2⟩
theorem Rd.far {w:World}{A:Option Addr}{c g:Nat}{xs:List Nat}(h:Rd w A c xs)(hne:Off A g)(i:Nat)(u:Value):Rd (w.setCell ⟨g,i,none⟩ u) A c xs:=h.grown (gb_set (gb_refl w (some g)) i u) hne
theorem lz_facts {y:Nat}(hy:0<y)(hy':y<4294967296):32-bitLen y≤31∧y*2^(32-bitLen y)+2^(32-bitLen y)≤4294967296:=by
 have h1:=bitLen_le y 32 (by omega);have h2:=(bitLen_spec y).1;have h3:1≤bitLen y:=by
  rcases Nat.eq_zero_or_pos (bitLen y) with h|h
  ·rw[h]at h2;omega
  ·exact h
 refine⟨by omega,?_⟩;have:(y+1)*2^(32-bitLen y)≤2^bitLen y*2^(32-bitLen y):=Nat.mul_le_mul_right _ h2;rw[←Nat.pow_add,show bitLen y+(32-bitLen y)=32 by omega,Nat.add_mul,Nat.one_mul]at this;exact this
theorem long_any (A B:Option Addr)(c d:Nat)(xs ys:List Nat)(w:World)(ha:Rd w A c xs)(hb:Rd w B d ys)(hl1:xs.length≤256)(hl2:ys.length≤256)(hlen:ys.length≤xs.length)(h2:2≤ys.length)(hf:Fine ys):Calls Tryz.prog 197 #[.slice A xs.length c,.slice B ys.length d] w fun e w'=>(∃A1 c1 A2 c2,e= .returned (.tuple #[.slice A1 (dig (val xs/val ys)).length c1,.slice A2 (dig (val xs%val ys)).length c2])∧Rd w' A1 c1 (dig (val xs/val ys))∧Rd w' A2 c2 (dig (val xs%val ys)))∧Below w.heap.size w w':=by
 obtain⟨b2,o2,rfl,hb2,hc2⟩:=hb.at_ (by rintro rfl;simp at h2);have g1:=hc2 (ys.length-1) (by omega);rw[←at0_in]at g1;have hy1:=at0_lt hb.ok (ys.length-1);have hy0:0<at0 ys (ys.length-1):=by
  have:ys.getLast? =some (at0 ys (ys.length-1)):=by rw[List.getLast?_eq_getElem?,gG (by omega),at0_in]
  unfold Fine at hf;rw[this]at hf;rcases Nat.eq_zero_or_pos (at0 ys (ys.length-1)) with h|h
  ·rw[h]at hf;exact absurd rfl hf
  ·exact h
 obtain⟨hs31,hs32⟩:=lz_facts hy0 hy1;generalize hs:32-bitLen (at0 ys (ys.length-1))=s at*;obtain⟨hV1,hV2,hV3⟩:=shift_len (by omega) hs32 hb.ok hf;generalize hyl:at0 ys (ys.length-1)=y1 at*;have HV1:=ZH hV1;have HV2:=ZH hV2;have HV3:=ZH hV3;have HST:=ZH (long_start (s:=s) (y:=val ys) (val_lt ha.ok) (by
  have:=le_of_dig_length (n:=val ys) (k:=ys.length-1);rw[dig_val hb.ok hf]at this;rcases Nat.lt_or_ge (val ys) (4294967296^(ys.length-1)) with h|h
  ·have:=dig_length_le h;rw[dig_val hb.ok hf]at this;omega
  ·exact h) (by omega) (by omega:ys.length≤xs.length+1))
 clear hV1 hV2 hV3 hc2 hyl hs32 hf;go_enter Tryz.func197,Tryz.ntmps197;go_wp2_with fail;refine(lz32_any y1 _ hy1).mono ?_;rintro e w0 ⟨rfl,rfl⟩;rw[hs];clear hs hy1 hy0 g1;go_wp2_with fail;refine(shift_any _ _ ys s _ hb (by omega) hs31).mono ?_;rintro e w1 ⟨os,hst,⟨gv,rfl,hrv,hgv⟩,hbv⟩;have hosl:=hst.2.1;have hvv:=hst.done;have hvo:=hst.1;rw[hosl];go_wp2_with fail;refine(trim_row hrv hvo hosl (by omega)).mono ?_;rintro e w1' ⟨⟨rfl,hrdv⟩,rfl⟩;rw[hvv]at hrdv⊢;rw[HV3.out];clear hst hosl hvv hvo;have hgvl:=hrv.lt;have ha1:=ha.below hbv ZL;go_wp2_with fail;refine(shift_any _ _ xs s _ ha1 (by omega) hs31).mono ?_;rintro e w2 ⟨us0,hsu,⟨gu,rfl,hru,hgu⟩,hbu⟩;have husl:=hsu.2.1;have huv:=hsu.done;have huo:=hsu.1;rw[husl];have HUV:=ZH huv;have HUL:=ZH husl;have hrdv2:=hrdv.below hbu ZL;have hoff:Off (some ⟨gv,0,none⟩) gu:=by
  intro a ha';injection ha' with ha';subst ha';show gv≠gu;omega
 clear hsu husl huv hrdv ha1;obtain⟨nq,hnq⟩:∃nq,nq=xs.length+1-ys.length:=⟨_,rfl⟩;have hq1:nq+ys.length≤xs.length+1:=by omega
 have hq2:xs.length+1≤nq+ys.length:=by omega
 rw[←hnq]at HST;clear hnq;go_wp2_with (at_make;refine wp_makeN _ _ _ nq (by omega) (by omega) (by omega) rfl rfl rfl rfl ?_;intro w3 hrq hbq);have hgul:=hru.lt;have hru3:=hru.below hbq ZL;have hrdv3:=hrdv2.below hbq ZL;have hb3:Below w.heap.size w w3:=hbv.trans ((hbu.mono hbv.size).trans (hbq.mono (Nat.le_trans hbv.size hbu.size)));have hgq:w.heap.size≤w2.heap.size:=Nat.le_trans hbv.size hbu.size;have hgu0:w.heap.size≤gu:=Nat.le_trans hbv.size hgu;generalize hGQ:w2.heap.size=gq at*;clear hru hrdv2 hbq hGQ;have H0:=ZH (LongTo.first huo HUL.out HUV.out HST.out);clear huo;go_loopw [11] (fun i wr=>∃(k:Nat)(us qs:List Nat),k≤nq∧i= .int .i64 ((k:Int)-1)∧Hid (LongTo (val ys*2^s) (val xs*2^s) nq (xs.length+1) k us qs)∧Row wr gu us∧Row wr gq qs∧Rd wr (some ⟨gv,0,none⟩) (ys.length+1) (dig (val ys*2^s))∧Below w.heap.size w wr) (fun i _=>(intOf i+1).toNat)
 case atStart=>exact⟨nq,us0,_,by omega,by go_num,H0,hru3,hrq,hrdv3,hb3⟩
 case round=>
  obtain⟨k,us,qs,hk,rfl,HL,hru,hrq2,hrdv,hbel⟩:=hrel;clear hru3 hrq hrdv3 hb3 H0;cases k with
  |succ k=>
   have hol:=HL.out.2.1;have huo:=HL.out.1;have hqo:=HL.out.2.2.1;have hql:=HL.out.2.2.2.1;obtain⟨f1,f2,f3,f4⟩:=long_facts huo HL.out.2.2.2.2.1 HV1.out HV2.out h2;have F3:=ZH f3;have F4:=ZH f4;have hN:(us.take (k+ys.length+1)).length=k+ys.length+1:=by rw[List.length_take];omega
   have hrdu:=((hru.rd huo (by omega)).take (k+ys.length+1));rw[hol]at hrdu;have HG:=fun w' h1 h2'=>guess_use (A:=some ⟨gu,0,none⟩) (B:=some ⟨gv,0,none⟩) (c:=xs.length+1) (d:=ys.length+1) (N:=k+ys.length+1) (M:=ys.length) (us:=us.take (k+ys.length+1)) (vs:=dig (val ys*2^s)) (w:=w') h1 h2' hN HV3.out (by omega) (by omega) (by omega) (by omega) f1
    (by rw[at0_take (by omega)];exact f2)
   rw[at0_take (by omega),at0_take (by omega),at0_take (by omega),show k+ys.length+1-1=k+ys.length by omega,show k+ys.length+1-2=k+ys.length-1 by omega,show k+ys.length+1-3=k+ys.length-2 by omega]at HG;have HG:=ZH HG;have HOL:=ZH hol;have HQL:=ZH hql;have gq1:=hrq2.frozen k;have gq2:=hrq2.cell (i:=k) (by omega);generalize qs[k]'(by omega)=qk at gq2;have hguq:gu≠gq:=by omega
   have hoffq:Off (some ⟨gv,0,none⟩) gq:=by
    intro a ha';injection ha' with ha';subst ha';show gv≠gq;omega
   clear f1 f2 f3 f4 hN hol hql;go_wp2_with fail;refine(HG.out _ hrdu hrdv).mono ?_;rintro e w4 ⟨⟨q,rfl,hgs⟩,n0,rfl⟩;have hqb:=hgs.1;obtain⟨t1,t2⟩:=F4.out q hgs;have T1:=ZH t1;have T2:=ZH t2;clear t1 t2 hgs F4 hrdu;go_wp2_with fail;have hul:us.length=k+(xs.length+1-k):=by have:=HOL.out;omega
   refine(less_use (hru.drewN n0) huo (hrdv.drewN n0) hoff hul HV3.out (by omega) (by omega) hqb (by omega)).mono ?_;rintro e w5 ⟨⟨us',bo,rfl,hle,hru5⟩,hg5⟩;rw[val_dig]at hle;have hbel5:=below_grown (hbel.trans ((Read.refl wr).drewN n0|>.below _)) hg5 (by have:=hbel.size;exact this) (by omega);have hrq5:=(hrq2.drewN n0).grown hg5 (fun h=>hguq h.symm);have hrdv5:=(hrdv.drewN n0).grown hg5 hoff;have hbo:=hle.2.2.1;have huo5:=hle.1;have hul5:us'.length=k+(xs.length+1-k):=hle.2.1.trans hul;have HLE:=ZH hle;clear hle hru hrdv hul gq1 gq2 hg5;have gq1:=hrq5.frozen k;have gq2:=hrq5.cell (i:=k) (by have:=HQL.out;omega);generalize qs[k]'(by have:=HQL.out;omega)=qk at gq2;rcases(by omega:bo=0∨bo=1) with rfl|rfl
   ·have HF:=ZH (long_round1 HL.out (by omega) hqb F3.out T1.out T2.out HLE.out);clear hul5;go_wp2;go_roundw
    case rel=>exact⟨k,us',qs.set k q,by omega,by go_num,HF,hru5.far (by exact hguq) _,hrq5.set k q (by omega),hrdv5.far hoffq _ _,hbel5.setCell (by exact hgq) _⟩
    case measure=>simp[intOf]
   ·have hq0:=long_pos F3.out T1.out T2.out HLE.out;go_wp2_with fail;refine(again_use hru5 huo5 hrdv5 hoff hul5 HV3.out (by omega) (by omega) (by omega)).mono ?_;rintro e w6 ⟨⟨rfl,us'',hag,hru6⟩,hg6⟩;rw[val_dig]at hag;have hbel6:=below_grown hbel5 hg6 hbel5.size (by omega);have hrq6:=hrq5.grown hg6 (fun h=>hguq h.symm);have hrdv6:=hrdv5.grown hg6 hoff;have HF:=ZH (long_round2 HL.out (by omega) hqb F3.out T1.out T2.out HLE.out hag);clear hag hul5 gq1 gq2 hrq5 hrdv5 hbel5 hru5;have gq1:=hrq6.frozen k;have gq2:=hrq6.cell (i:=k) (by have:=HQL.out;omega);generalize qs[k]'(by have:=HQL.out;omega)=qk at gq2;go_wp2;go_roundw
    case rel=>exact⟨k,us'',qs.set k (q-1),by omega,by go_num,HF.out.2,hru6.far (by exact hguq) _,hrq6.set k (q-1) (by omega),hrdv6.far hoffq _ _,hbel6.setCell (by exact hgq) _⟩
    case measure=>simp[intOf]
  |zero=>
   have hol:=HL.out.2.1;have huo:=HL.out.1;obtain⟨hd1,hd2⟩:=HL.out.done;have hTV:=HL.out.2.2.2.2.1;have hqo:=HL.out.2.2.1;have hql:=HL.out.2.2.2.1;have HD1:=ZH hd1;have HD2:=ZH hd2;have HTV:=ZH hTV;have HOL:=ZH hol;have HQL:=ZH hql;clear hd1 hd2 hTV hol hql HL hrdv hoff hbu hbv hrv HUV HST HUL;go_wp2_with (at_make;refine wp_makeN _ _ _ ys.length (by omega) (by omega) (by omega) rfl rfl rfl rfl ?_;intro w7 hrr hbr);have hru7:=hru.below hbr ZL;have hrq7:=hrq2.below hbr ZL;have hbel7:=hbel.trans (hbr.mono hbel.size);have hgr0:=hbel.size;have hul:=hru.lt;have hql:=hrq2.lt;generalize hGR:wr.heap.size=gr at*;have hgur:gu≠gr:=by omega
   have hgqr:gq≠gr:=by omega
   clear hru hrq2 hbel hbr hGR;go_loopw [73] (fun iv wr=>∃(i:Nat)(rs:List Nat),i≤ys.length∧iv= .int .i64 i∧RestTo (val us) s ys.length i rs∧Row wr gu us∧Row wr gq qs∧Row wr gr rs∧Below w.heap.size w wr) (fun iv _=>ys.length-(intOf iv).toNat)
   case atStart=>exact⟨0,_,by omega,rfl,RestTo.zero _ _ _,hru7,hrq7,hrr,hbel7⟩
   case round=>
    obtain⟨i,rs,hi,rfl,hrt,hru,hrq,hrr,hbel⟩:=hrel;have hrl:=hrt.2.1;have hro:=hrt.1;have HRT:=ZH hrt;have HRL:=ZH hrl;clear hrt hrl hru7 hrq7 hbel7;by_cases hlt:i<ys.length
    ·have g1:=hru.cell (i:=i+1) (by have:=HOL.out;omega);have g2:=hru.cell (i:=i) (by have:=HOL.out;omega);rw[←at0_in]at g1 g2;have l1:=at0_lt huo (i+1);have l2:=at0_lt huo i;have HS:=ZH (HRT.out.step huo (by omega) hlt);have g3:=hrr.cell (i:=i) (by have:=HRL.out;omega);have g4:=hrr.frozen i;generalize rs[i]'(by have:=HRL.out;omega)=ri at g3;generalize at0 us (i+1)=u1 at*;generalize at0 us i=u0 at*;obtain⟨N,hN⟩:∃N:Nat,N=u1*4294967296+u0:=⟨_,rfl⟩;have hor:=or_join (u1:Int) (u0:Int) (by omega) (by omega) (by omega) (by omega);have hNi:(u1:Int)*4294967296+(u0:Int)=(N:Int):=by omega
     rw[hNi]at hor;rw[←hN]at HS;have hsh:(N:Int)/2^s%4294967296=((N/2^s%4294967296:Nat):Int):=by
      rw[Int.natCast_emod,Int.natCast_ediv,Int.natCast_pow];rfl
     have HSH:=ZH hsh;clear hN hNi hsh;go_wp2;go_region;go_wp2;refine⟨⟨i+1,_,by omega,by go_num,HS.out,?_,?_,?_,?_⟩,by simp[intOf];omega⟩
     ·exact hru.far (by exact hgur) _
     ·exact hrq.far (by exact hgqr) _
     ·exact hrr.set i _ HSH.out
     ·exact(hbel.setCell (by exact hgr0) _).drew
    ·have hil:i=ys.length:=by omega
     subst hil;have hrv2:=HRT.out.done (Nat.lt_trans HTV.out (by rw[Nat.pow_zero,Nat.mul_one];exact HV1.out));have e1:val qs=val xs/val ys:=by rw[HD1.out];exact Nat.mul_div_mul_right _ _ (Nat.two_pow_pos s)
     have e2:val rs=val xs%val ys:=by rw[hrv2,HD2.out,Nat.mul_mod_mul_right,Nat.mul_div_cancel _ (Nat.two_pow_pos s)]
     have E1:=ZH e1;have E2:=ZH e2;clear e1 e2 hrv2 hlt hi;go_wp2_with fail;refine(trim_row hrq hqo HQL.out (by omega)).mono ?_;rintro e w8 ⟨⟨rfl,hr8⟩,rfl⟩;rw[E1.out]at hr8⊢;go_wp2_with fail;refine(trim_row hrr hro HRL.out (by omega)).mono ?_;rintro e w9 ⟨⟨rfl,hr9⟩,rfl⟩;rw[E2.out]at hr9⊢;go_wp2;go_ret2;exact⟨⟨_,_,_,_,rfl,hr8,hr9⟩,hbel⟩
end Go.Proofs.YtecfcjdgmpopjaaGreat
set_option maxHeartbeats 1000000
set_option maxRecDepth 100000
namespace Go.Proofs.YtecfcjdgmpopjaaGreat
open Go.RowKit Num
theorem wp_appN {ops:Array Oper}{rest:List Oper}{o:Oper}{a:Act}{Q:Exit→Act→World→Prop}(s x:Operand)(w:World)(base:Nat)(v:Value)(xs:List Nat)(ad:Addr)(c:Nat)(ys:List Nat)(hown:Own w base v xs)(hr:Rd w (some ad) c ys)(hb:base≤w.heap.size)(hlen:xs.length≤1000000)(hlen2:ys.length≤1000000)(hgd:o.guard=none)(ho:o.op= .call {callee:= .builtin .append,args:= #[s,x],argTypes:= #[53,53]})(hs:a.eval s=v)(hx:a.eval x= .slice (some ad) ys.length c)(K:∀v' w',Own w' base v' (xs++ys)→w.grownBy w' v.ownBlock→Below base w w'→wpList Tryz.prog ops Q rest (a.put o.dst v') w'):wpList Tryz.prog ops Q (o::rest) a w:=by
 obtain⟨i0,hi,hz0,hz1,hz2⟩:=info_parts info_u32;refine wpList_append_own _ hgd s x 53 ho base 152 i0 (.int .u32 0) 1 4 Tryz.underlying53 hi hz0 hz1 hz2 rfl (by decide) v xs.length (xs.map dv) hs hown ad ys.length c (ys.map dv) hx (by simp)
  ?_ ?_ ?_ ?_ hb ?_
 ·intro j u hj;have hjl:j<ys.length:=by
   have:=(List.getElem?_eq_some_iff.1 hj).1;simpa using this
  obtain⟨b,o',hA,hlt,hc⟩:=hr.at_ (by rintro rfl;simp at hjl);have hA':ad=⟨b,o',none⟩:=Option.some.inj hA;rw[hA',add_lit',hc j hjl];rw[List.getElem?_map,gG hjl]at hj;exact hj
 ·exact dv_oneCell ys
 ·unfold maxLen;omega
 ·omega
 ·intro v' w' h1 h2 _;refine K v' w' ?_ h2 ?_
  ·unfold Own;simpa using h1
  ·exact(Below.refl base w).grown h2 hb (fun k hk=>(hown.lt k hk).1)
theorem clone_any (A:Option Addr)(c:Nat)(xs:List Nat)(w:World)(ha:Rd w A c xs)(hs:xs.length≤100000):Calls Tryz.prog 195 #[.slice A xs.length c] w fun e w'=>RetS w w' e xs:=by
 rcases A with _|ad
 ·have hx:xs=[]:=by
   rcases xs with _|⟨x,xs⟩
   ·rfl
   ·obtain⟨b,o,h,_⟩:=ha.at_ (by simp);cases h
  subst hx;have hq:=fun(w:World)=>Lib.run_eql_slice_nil (P:=Tryz.prog) w 53 152 none 0 c 0 0 Tryz.underlying53;go_enter Tryz.func195,Tryz.ntmps195;go_wp2;go_ret;exact⟨⟨none,0,rfl,Rd.nil⟩,Below.refl _ _⟩
 ·have hq:=fun(w:World)=>Lib.run_eql_slice_nil (P:=Tryz.prog) w 53 152 (some ad) xs.length c 0 0 Tryz.underlying53;have hown:Own (w.alloc (.cells #[] 152)) w.heap.size (.slice (some ⟨w.heap.size,0,none⟩) 0 0) []:=World.ownsRow_made w #[] 0 ZL (by simp[maxLen]) (by simp);have hra:=ha.alloc (.cells #[] 152);have hbel:Below w.heap.size w (w.alloc (.cells #[] 152)):=(Below.refl _ _).alloc ZL _;go_enter Tryz.func195,Tryz.ntmps195;go_wp2_with (at_builtin;refine wp_appN _ _ _ w.heap.size _ [] ad c xs hown hra hbel.size (by simp) (by omega) rfl rfl rfl rfl ?_;intro v' w' hown' _ hbel');obtain⟨A2,c2,rfl,hr2⟩:=hown'.rd ha.ok;go_ret;exact⟨⟨A2,c2,rfl,hr2⟩,hbel.trans hbel'⟩
theorem len_one {ys:List Nat}(h:ys.length=1):val ys=at0 ys 0:=by
 match ys,h with
 |[y],_=>simp[val,at0]
theorem divmod_any (A B:Option Addr)(c d:Nat)(xs ys:List Nat)(w:World)(ha:Rd w A c xs)(hb:Rd w B d ys):Calls Tryz.prog 167 #[.slice A xs.length c,.slice B ys.length d] w fun e w'=>RetSSE w w' e (divR xs ys):=by
 by_cases h1:rightB xs=true
 ·by_cases h2:rightB ys=true
  ·by_cases h3:ys=[]
   ·have hz:((ys.length:Int)==0)=true:=by simp[h3]
    have h3':decide (ys≠[])=false:=by simp[h3]
    clear h3;have HE:=ZH (divR_no (xs:=xs) (ys:=ys) (by rw[h3'];simp));go_enter Tryz.func167,Tryz.ntmps167;go_wp2_with (go_at_call 168;refine(right_any _ _ _ _ (by first|exact ha|exact hb)).mono ?_;rintro e w' ⟨rfl,rfl⟩);go_ret3;rw[HE.out];exact⟨⟨none,0,none,0,rfl,Rd.nil,Rd.nil⟩,Below.refl _ _⟩
   ·have hl1:=right_len h1;have hl2:=right_len h2;have hd1:=right_dig ha.ok h1;have hd2:=right_dig hb.ok h2;have hf:Fine ys:=by rw[←hd2];exact fine_dig _
    have HE:=ZH (divR_eq h1 h2 h3);have hz:=len_zero_b h3;have hV:0<val ys:=val_pos_of_last hf h3;have HO:=fun w' ha' hb'=>order_any A B c d (val xs) (val ys) w' ha' hb' (by rw[hd1];omega) (by rw[hd2];omega);rw[hd1,hd2]at HO;have HO:=ZH HO;by_cases hlt:val xs<val ys
    ·have hn:=cmpN_pos_b hlt;have e1:dig (val xs/val ys)=[]:=by rw[Nat.div_eq_of_lt hlt];rfl
     have e2:dig (val xs%val ys)=xs:=by rw[Nat.mod_eq_of_lt hlt,hd1]
     have E:=ZH (And.intro e1 e2);clear e1 e2 hd1 hd2 hlt;go_enter Tryz.func167,Tryz.ntmps167;go_wp2_with (first
      |(go_at_call 168;refine(right_any _ _ _ _ (by first|exact ha|exact hb)).mono ?_;rintro e w' ⟨rfl,rfl⟩)
      |(go_at_call 171;refine(HO.out _ ha hb).mono ?_;rintro e w' ⟨rfl,q0,rfl⟩)
      |(go_at_call 195;refine(clone_any _ _ _ _ (ha.drewN q0) (by omega)).mono ?_;rintro e w1 ⟨⟨A1,c1,rfl,hr1⟩,hb1⟩))
     go_ret3;rw[HE.out];refine⟨⟨none,0,A1,c1,?_,?_,?_⟩,((Read.refl w).drewN q0|>.below _).trans hb1⟩
     ·rw[E.out.1,E.out.2];rfl
     ·rw[E.out.1];exact Rd.nil
     ·rw[E.out.2];exact hr1
    ·have hn:=cmpN_neg_b hlt;have hlen:ys.length≤xs.length:=by rw[←hd1,←hd2];exact dig_len_mono (by omega)
     clear hd1 hd2 hlt;by_cases hone:ys.length=1
     ·have ho1:((ys.length:Int)==1)=true:=by simp[hone]
      obtain⟨b2,o2,rfl,hb2,hc2⟩:=hb.at_ h3;have g1:=hc2 0 (by omega);rw[Nat.add_zero,←at0_in]at g1;have hvy:=len_one hone;have hy:=at0_lt hb.ok 0;rw[hvy]at hV HE;have hp:(0:Int)<(ys.length:Int):=by omega
      generalize at0 ys 0=y at*;have hmod:val xs%y<y:=Nat.mod_lt _ hV;obtain⟨r,hr⟩:∃r,r=val xs%y:=⟨_,rfl⟩;rw[←hr]at hmod HE;have HR:=ZH hr;clear hvy hc2 hone hr;go_enter Tryz.func167,Tryz.ntmps167;go_wp2_with (first
       |(go_at_call 168;refine(right_any _ _ _ _ (by first|exact ha|exact hb)).mono ?_;rintro e w' ⟨rfl,rfl⟩)
       |(go_at_call 171;refine(HO.out _ ha hb).mono ?_;rintro e w' ⟨rfl,q0,rfl⟩)
       |(go_at_call 196;refine(small_any _ _ _ _ _ (ha.drewN q0) (by omega) hV hy).mono ?_;rintro e w1 ⟨⟨A1,c1,rfl,hr1,_⟩,hb1⟩;rw[←HR.out])
       |(go_at_call 103;refine(of_any r _ (by omega)).mono ?_;rintro e w2 ⟨⟨A2,c2,rfl,hr2⟩,hb2'⟩))
      go_ret3;rw[HE.out];exact⟨⟨A1,c1,A2,c2,rfl,hr1.below hb2' ZL,hr2⟩,((Read.refl w).drewN q0|>.below _).trans (hb1.trans (hb2'.mono hb1.size))⟩
     ·have ho1:((ys.length:Int)==1)=false:=by simp;omega
      have hy2:2≤ys.length:=by have:=List.length_pos_iff.2 h3;omega
      go_enter Tryz.func167,Tryz.ntmps167;go_wp2_with (first
       |(go_at_call 168;refine(right_any _ _ _ _ (by first|exact ha|exact hb)).mono ?_;rintro e w' ⟨rfl,rfl⟩)
       |(go_at_call 171;refine(HO.out _ ha hb).mono ?_;rintro e w' ⟨rfl,q0,rfl⟩)
       |(go_at_call 197;refine(long_any _ _ _ _ _ _ _ (ha.drewN q0) (hb.drewN q0) hl1 hl2 hlen hy2 hf).mono ?_;rintro e w1 ⟨⟨A1,c1,A2,c2,rfl,hr1,hr2⟩,hb1⟩))
      go_ret3;rw[HE.out];exact⟨⟨A1,c1,A2,c2,rfl,hr1,hr2⟩,((Read.refl w).drewN q0|>.below _).trans hb1⟩
  ·have h2':rightB ys=false:=by simpa using h2
   clear h2;have HE:=ZH (divR_no (xs:=xs) (ys:=ys) (by rw[h2'];simp));go_enter Tryz.func167,Tryz.ntmps167;go_wp2_with (go_at_call 168;refine(right_any _ _ _ _ (by first|exact ha|exact hb)).mono ?_;rintro e w' ⟨rfl,rfl⟩);go_ret3;rw[HE.out];exact⟨⟨none,0,none,0,rfl,Rd.nil,Rd.nil⟩,Below.refl _ _⟩
 ·have h1':rightB xs=false:=by simpa using h1
  clear h1;have HE:=ZH (divR_no (xs:=xs) (ys:=ys) (by rw[h1'];simp));go_enter Tryz.func167,Tryz.ntmps167;go_wp2_with (go_at_call 168;refine(right_any _ _ _ _ (by first|exact ha|exact hb)).mono ?_;rintro e w' ⟨rfl,rfl⟩);go_ret3;rw[HE.out];exact⟨⟨none,0,none,0,rfl,Rd.nil,Rd.nil⟩,Below.refl _ _⟩
end Go.Proofs.YtecfcjdgmpopjaaGreat
namespace Go.Proofs.YtecfcjdgmpopjaaGreat.Num
end Go.Proofs.YtecfcjdgmpopjaaGreat.Num
namespace Go.Proofs.YtecfcjdgmpopjaaGreat
open Go.RowKit Num
def bv (b:UInt8):Value:= .int .u8 (b.toNat:Int)
end Go.Proofs.YtecfcjdgmpopjaaGreat

/-
  Joined texts: NatN, NatO, Dec, Bytes.
-/
import Derived.Test.YtpnmcacndjkfaaaGreatNatM
import Derived.Test.YtpnmcacndjkfaaaGreatLongP
import Derived.RegionTactic
import Derived.BigRegion
import Derived.StillTailTactics
import Derived.Test.YtpnmcacndjkfaaaGreatNum
import Derived.Test.YtpnmcacndjkfaaaGreatBase
import Derived.Laws.IdiomStrings
import Derived.Maps.AppendAt
set_option maxHeartbeats 1000000
set_option maxRecDepth 100000
namespace Go.Proofs.YtpnmcacndjkfaaaGreat
open Go.RowKit Num
theorem at0_take {xs:List Nat}{n i:Nat}(h:i<n):at0 (xs.take n) i=at0 xs i:=by
 unfold at0;rw[List.getD_eq_getElem?_getD,List.getD_eq_getElem?_getD,List.getElem?_take,if_pos h]
theorem guess_use {A B:Option Addr}{c d N M:Nat}{us vs:List Nat}{w:World}(ha:Rd w A c us)(hb:Rd w B d vs)(hN:us.length=N)(hM:vs.length=M)(hu:3≤N)(hv:2≤M)(hs:N≤100000)(ht:M≤100000)(hpos:0<at0 vs (M-1))(hle:at0 us (N-1)≤at0 vs (M-1)):Calls Tryz.prog 162 #[.slice A N c,.slice B M d] w fun e w'=>(∃q:Nat,e= .returned (.int .u64 q)∧GuessOk (at0 us (N-1)) (at0 us (N-2)) (at0 us (N-3)) (at0 vs (M-1)) (at0 vs (M-2)) q)∧Read w w':=by
 subst hN hM;exact guess_any A B c d us vs w ha hb hu hv hs ht hpos hle
theorem less_use {B:Option Addr}{d g j n cap M:Nat}{us vs:List Nat}{q:Nat}{w:World}(hr:Row w g us)(ho:Ok us)(hb:Rd w B d vs)(hne:Off B g)(hn:us.length=j+n)(hM:vs.length=M)(hm:M<n)(hv:0<M)(hq:q<4294967296)(hs:us.length≤100000):Calls Tryz.prog 163 #[.slice (some ⟨g,j,none⟩) n cap,.slice B M d,.int .u64 q] w fun e w'=>(∃(us':List Nat)(bo:Nat),e= .returned (.bool ((bo:Int) !=0))∧LessEnd us (val vs) j M q us' bo∧Row w' g us')∧w.grownBy w' (some g):=by
 subst hM;exact less2_any B d g j n cap us vs q w hr ho hb hne hn hm hv hq hs
theorem again_use {B:Option Addr}{d g j n cap M:Nat}{us vs:List Nat}{w:World}(hr:Row w g us)(ho:Ok us)(hb:Rd w B d vs)(hne:Off B g)(hn:us.length=j+n)(hM:vs.length=M)(hm:M<n)(hv:0<M)(hs:us.length≤100000):Calls Tryz.prog 164 #[.slice (some ⟨g,j,none⟩) n cap,.slice B M d] w fun e w'=>(e= .returned (.tuple #[])∧∃us',AgainEnd us (val vs) j M us'∧Row w' g us')∧w.grownBy w' (some g):=by
 subst hM;exact again_any B d g j n cap us vs w hr ho hb hne hn hm hv hs
theorem trim_row {w:World}{g n:Nat}{os:List Nat}(hr:Row w g os)(ho:Ok os)(hn:os.length=n)(hs:n≤100000):Calls Tryz.prog 117 #[.slice (some ⟨g,0,none⟩) n n] w fun e w'=>(e= .returned (.slice (some ⟨g,0,none⟩) (dig (val os)).length n)∧Rd w (some ⟨g,0,none⟩) n (dig (val os)))∧w=w':=by
 subst hn;have hrd:=hr.rd ho (by omega);exact(trim_any _ _ _ w hrd (by omega)).mono fun e w2 ⟨h1,h2⟩=>⟨trim_use h1 hrd,h2⟩
theorem Rd.far {w:World}{A:Option Addr}{c g:Nat}{xs:List Nat}(h:Rd w A c xs)(hne:Off A g)(i:Nat)(u:Value):Rd (w.setCell ⟨g,i,none⟩ u) A c xs:=h.grown (gb_set (gb_refl w (some g)) i u) hne
theorem lz_facts {y:Nat}(hy:0<y)(hy':y<4294967296):32-bitLen y≤31∧y*2^(32-bitLen y)+2^(32-bitLen y)≤4294967296:=by
 have h1:=bitLen_le y 32 (by omega);have h2:=(bitLen_spec y).1;have h3:1≤bitLen y:=by
  rcases Nat.eq_zero_or_pos (bitLen y) with h|h
  ·rw[h]at h2;omega
  ·exact h
 refine⟨by omega,?_⟩;have:(y+1)*2^(32-bitLen y)≤2^bitLen y*2^(32-bitLen y):=Nat.mul_le_mul_right _ h2;rw[←Nat.pow_add,show bitLen y+(32-bitLen y)=32 by omega,Nat.add_mul,Nat.one_mul]at this;exact this
theorem long_any (A B:Option Addr)(c d:Nat)(xs ys:List Nat)(w:World)(ha:Rd w A c xs)(hb:Rd w B d ys)(hl1:xs.length≤256)(hl2:ys.length≤256)(hlen:ys.length≤xs.length)(h2:2≤ys.length)(hf:Fine ys):Calls Tryz.prog 150 #[.slice A xs.length c,.slice B ys.length d] w fun e w'=>(∃A1 c1 A2 c2,e= .returned (.tuple #[.slice A1 (dig (val xs/val ys)).length c1,.slice A2 (dig (val xs%val ys)).length c2])∧Rd w' A1 c1 (dig (val xs/val ys))∧Rd w' A2 c2 (dig (val xs%val ys)))∧Below w.heap.size w w':=by
 obtain⟨b2,o2,rfl,hb2,hc2⟩:=hb.at_ (by rintro rfl;simp at h2);have g1:=hc2 (ys.length-1) (by omega);rw[←at0_in]at g1;have hy1:=at0_lt hb.ok (ys.length-1);have hy0:0<at0 ys (ys.length-1):=by
  have:ys.getLast? =some (at0 ys (ys.length-1)):=by rw[List.getLast?_eq_getElem?,List.getElem?_eq_getElem (by omega),at0_in]
  unfold Fine at hf;rw[this]at hf;rcases Nat.eq_zero_or_pos (at0 ys (ys.length-1)) with h|h
  ·rw[h]at hf;exact absurd rfl hf
  ·exact h
 obtain⟨hs31,hs32⟩:=lz_facts hy0 hy1;generalize hs:32-bitLen (at0 ys (ys.length-1))=s at*;obtain⟨hV1,hV2,hV3⟩:=shift_len (by omega) hs32 hb.ok hf;generalize hyl:at0 ys (ys.length-1)=y1 at*;have HV1:=ZH hV1;have HV2:=ZH hV2;have HV3:=ZH hV3;have HST:=ZH (long_start (s:=s) (y:=val ys) (val_lt ha.ok) (by
  have:=le_of_dig_length (n:=val ys) (k:=ys.length-1);rw[dig_val hb.ok hf]at this;rcases Nat.lt_or_ge (val ys) (4294967296^(ys.length-1)) with h|h
  ·have:=dig_length_le h;rw[dig_val hb.ok hf]at this;omega
  ·exact h) (by omega) (by omega:ys.length≤xs.length+1))
 clear hV1 hV2 hV3 hc2 hyl hs32 hf;go_enter Tryz.func150,Tryz.ntmps150;go_wp2_with fail;refine(lz32_any y1 _ hy1).mono ?_;rintro e w0 ⟨rfl,rfl⟩;rw[hs];clear hs hy1 hy0 g1;go_wp2_with fail;refine(shift_any _ _ ys s _ hb (by omega) hs31).mono ?_;rintro e w1 ⟨os,hst,⟨gv,rfl,hrv,hgv⟩,hbv⟩;have hosl:=hst.2.1;have hvv:=hst.done;have hvo:=hst.1;rw[hosl];go_wp2_with fail;refine(trim_row hrv hvo hosl (by omega)).mono ?_;rintro e w1' ⟨⟨rfl,hrdv⟩,rfl⟩;rw[hvv]at hrdv⊢;rw[HV3.out];clear hst hosl hvv hvo;have hgvl:=hrv.lt;have ha1:=ha.below hbv ZL;go_wp2_with fail;refine(shift_any _ _ xs s _ ha1 (by omega) hs31).mono ?_;rintro e w2 ⟨us0,hsu,⟨gu,rfl,hru,hgu⟩,hbu⟩;have husl:=hsu.2.1;have huv:=hsu.done;have huo:=hsu.1;rw[husl];have HUV:=ZH huv;have HUL:=ZH husl;have hrdv2:=hrdv.below hbu ZL;have hoff:Off (some ⟨gv,0,none⟩) gu:=by
  intro a ha';injection ha' with ha';subst ha';show gv≠gu;omega
 clear hsu husl huv hrdv ha1;obtain⟨nq,hnq⟩:∃nq,nq=xs.length+1-ys.length:=⟨_,rfl⟩;have hq1:nq+ys.length≤xs.length+1:=by omega
 have hq2:xs.length+1≤nq+ys.length:=by omega
 rw[←hnq]at HST;clear hnq;go_wp2_with (at_make;refine wp_makeN _ _ _ nq (by omega) (by omega) (by omega) rfl rfl rfl rfl ?_;intro w3 hrq hbq);have hgul:=hru.lt;have hru3:=hru.below hbq ZL;have hrdv3:=hrdv2.below hbq ZL;have hb3:Below w.heap.size w w3:=hbv.trans ((hbu.mono hbv.size).trans (hbq.mono (Nat.le_trans hbv.size hbu.size)));have hgq:w.heap.size≤w2.heap.size:=Nat.le_trans hbv.size hbu.size;have hgu0:w.heap.size≤gu:=Nat.le_trans hbv.size hgu;generalize hGQ:w2.heap.size=gq at*;clear hru hrdv2 hbq hGQ;have H0:=ZH (LongTo.first huo HUL.out HUV.out HST.out);clear huo;go_loopw [11] (fun i wr=>∃(k:Nat)(us qs:List Nat),k≤nq∧i= .int .i64 ((k:Int)-1)∧Hid (LongTo (val ys*2^s) (val xs*2^s) nq (xs.length+1) k us qs)∧Row wr gu us∧Row wr gq qs∧Rd wr (some ⟨gv,0,none⟩) (ys.length+1) (dig (val ys*2^s))∧Below w.heap.size w wr) (fun i _=>(intOf i+1).toNat)
 case atStart=>exact⟨nq,us0,_,by omega,by go_num,H0,hru3,hrq,hrdv3,hb3⟩
 case round=>
  obtain⟨k,us,qs,hk,rfl,HL,hru,hrq2,hrdv,hbel⟩:=hrel;clear hru3 hrq hrdv3 hb3 H0;cases k with
  |succ k=>
   have hol:=HL.out.2.1;have huo:=HL.out.1;have hqo:=HL.out.2.2.1;have hql:=HL.out.2.2.2.1;obtain⟨f1,f2,f3,f4⟩:=long_facts huo HL.out.2.2.2.2.1 HV1.out HV2.out h2;have F3:=ZH f3;have F4:=ZH f4;have hN:(us.take (k+ys.length+1)).length=k+ys.length+1:=by rw[List.length_take];omega
   have hrdu:=((hru.rd huo (by omega)).take (k+ys.length+1));rw[hol]at hrdu;have HG:=fun w' h1 h2'=>guess_use (A:=some ⟨gu,0,none⟩) (B:=some ⟨gv,0,none⟩) (c:=xs.length+1) (d:=ys.length+1) (N:=k+ys.length+1) (M:=ys.length) (us:=us.take (k+ys.length+1)) (vs:=dig (val ys*2^s)) (w:=w') h1 h2' hN HV3.out (by omega) (by omega) (by omega) (by omega) f1
    (by rw[at0_take (by omega)];exact f2)
   rw[at0_take (by omega),at0_take (by omega),at0_take (by omega),show k+ys.length+1-1=k+ys.length by omega,show k+ys.length+1-2=k+ys.length-1 by omega,show k+ys.length+1-3=k+ys.length-2 by omega]at HG;have HG:=ZH HG;have HOL:=ZH hol;have HQL:=ZH hql;have gq1:=hrq2.frozen k;have gq2:=hrq2.cell (i:=k) (by omega);generalize qs[k]'(by omega)=qk at gq2;have hguq:gu≠gq:=by omega
   have hoffq:Off (some ⟨gv,0,none⟩) gq:=by
    intro a ha';injection ha' with ha';subst ha';show gv≠gq;omega
   clear f1 f2 f3 f4 hN hol hql;go_wp2_with fail;refine(HG.out _ hrdu hrdv).mono ?_;rintro e w4 ⟨⟨q,rfl,hgs⟩,n0,rfl⟩;have hqb:=hgs.1;obtain⟨t1,t2⟩:=F4.out q hgs;have T1:=ZH t1;have T2:=ZH t2;clear t1 t2 hgs F4 hrdu;go_wp2_with fail;have hul:us.length=k+(xs.length+1-k):=by have:=HOL.out;omega
   refine(less_use (hru.drewN n0) huo (hrdv.drewN n0) hoff hul HV3.out (by omega) (by omega) hqb (by omega)).mono ?_;rintro e w5 ⟨⟨us',bo,rfl,hle,hru5⟩,hg5⟩;rw[val_dig]at hle;have hbel5:=below_grown (hbel.trans ((Read.refl wr).drewN n0|>.below _)) hg5 (by have:=hbel.size;exact this) (by omega);have hrq5:=(hrq2.drewN n0).grown hg5 (fun h=>hguq h.symm);have hrdv5:=(hrdv.drewN n0).grown hg5 hoff;have hbo:=hle.2.2.1;have huo5:=hle.1;have hul5:us'.length=k+(xs.length+1-k):=hle.2.1.trans hul;have HLE:=ZH hle;clear hle hru hrdv hul gq1 gq2 hg5;have gq1:=hrq5.frozen k;have gq2:=hrq5.cell (i:=k) (by have:=HQL.out;omega);generalize qs[k]'(by have:=HQL.out;omega)=qk at gq2;rcases(by omega:bo=0∨bo=1) with rfl|rfl
   ·have HF:=ZH (long_round1 HL.out (by omega) hqb F3.out T1.out T2.out HLE.out);clear hul5;go_wp2;go_roundw
    case rel=>exact⟨k,us',qs.set k q,by omega,by go_num,HF,hru5.far (by exact hguq) _,hrq5.set k q (by omega),hrdv5.far hoffq _ _,hbel5.setCell (by exact hgq) _⟩
    case measure=>simp[intOf]
   ·have hq0:=long_pos F3.out T1.out T2.out HLE.out;go_wp2_with fail;refine(again_use hru5 huo5 hrdv5 hoff hul5 HV3.out (by omega) (by omega) (by omega)).mono ?_;rintro e w6 ⟨⟨rfl,us'',hag,hru6⟩,hg6⟩;rw[val_dig]at hag;have hbel6:=below_grown hbel5 hg6 hbel5.size (by omega);have hrq6:=hrq5.grown hg6 (fun h=>hguq h.symm);have hrdv6:=hrdv5.grown hg6 hoff;have HF:=ZH (long_round2 HL.out (by omega) hqb F3.out T1.out T2.out HLE.out hag);clear hag hul5 gq1 gq2 hrq5 hrdv5 hbel5 hru5;have gq1:=hrq6.frozen k;have gq2:=hrq6.cell (i:=k) (by have:=HQL.out;omega);generalize qs[k]'(by have:=HQL.out;omega)=qk at gq2;go_wp2;go_roundw
    case rel=>exact⟨k,us'',qs.set k (q-1),by omega,by go_num,HF.out.2,hru6.far (by exact hguq) _,hrq6.set k (q-1) (by omega),hrdv6.far hoffq _ _,hbel6.setCell (by exact hgq) _⟩
    case measure=>simp[intOf]
  |zero=>
   have hol:=HL.out.2.1;have huo:=HL.out.1;obtain⟨hd1,hd2⟩:=HL.out.done;have hTV:=HL.out.2.2.2.2.1;have hqo:=HL.out.2.2.1;have hql:=HL.out.2.2.2.1;have HD1:=ZH hd1;have HD2:=ZH hd2;have HTV:=ZH hTV;have HOL:=ZH hol;have HQL:=ZH hql;clear hd1 hd2 hTV hol hql HL hrdv hoff hbu hbv hrv HUV HST HUL;go_wp2_with (at_make;refine wp_makeN _ _ _ ys.length (by omega) (by omega) (by omega) rfl rfl rfl rfl ?_;intro w7 hrr hbr);have hru7:=hru.below hbr ZL;have hrq7:=hrq2.below hbr ZL;have hbel7:=hbel.trans (hbr.mono hbel.size);have hgr0:=hbel.size;have hul:=hru.lt;have hql:=hrq2.lt;generalize hGR:wr.heap.size=gr at*;have hgur:gu≠gr:=by omega
   have hgqr:gq≠gr:=by omega
   clear hru hrq2 hbel hbr hGR;go_loopw [73] (fun iv wr=>∃(i:Nat)(rs:List Nat),i≤ys.length∧iv= .int .i64 i∧RestTo (val us) s ys.length i rs∧Row wr gu us∧Row wr gq qs∧Row wr gr rs∧Below w.heap.size w wr) (fun iv _=>ys.length-(intOf iv).toNat)
   case atStart=>exact⟨0,_,by omega,rfl,RestTo.zero _ _ _,hru7,hrq7,hrr,hbel7⟩
   case round=>
    obtain⟨i,rs,hi,rfl,hrt,hru,hrq,hrr,hbel⟩:=hrel;have hrl:=hrt.2.1;have hro:=hrt.1;have HRT:=ZH hrt;have HRL:=ZH hrl;clear hrt hrl hru7 hrq7 hbel7;by_cases hlt:i<ys.length
    ·have g1:=hru.cell (i:=i+1) (by have:=HOL.out;omega);have g2:=hru.cell (i:=i) (by have:=HOL.out;omega);rw[←at0_in]at g1 g2;have l1:=at0_lt huo (i+1);have l2:=at0_lt huo i;have HS:=ZH (HRT.out.step huo (by omega) hlt);have g3:=hrr.cell (i:=i) (by have:=HRL.out;omega);have g4:=hrr.frozen i;generalize rs[i]'(by have:=HRL.out;omega)=ri at g3;generalize at0 us (i+1)=u1 at*;generalize at0 us i=u0 at*;obtain⟨N,hN⟩:∃N:Nat,N=u1*4294967296+u0:=⟨_,rfl⟩;have hor:=or_join (u1:Int) (u0:Int) (by omega) (by omega) (by omega) (by omega);have hNi:(u1:Int)*4294967296+(u0:Int)=(N:Int):=by omega
     rw[hNi]at hor;rw[←hN]at HS;have hsh:(N:Int)/2^s%4294967296=((N/2^s%4294967296:Nat):Int):=by
      rw[Int.natCast_emod,Int.natCast_ediv,Int.natCast_pow];rfl
     have HSH:=ZH hsh;clear hN hNi hsh;go_wp2;go_region;go_wp2;refine⟨⟨i+1,_,by omega,by go_num,HS.out,?_,?_,?_,?_⟩,by simp[intOf];omega⟩
     ·exact hru.far (by exact hgur) _
     ·exact hrq.far (by exact hgqr) _
     ·exact hrr.set i _ HSH.out
     ·exact(hbel.setCell (by exact hgr0) _).drew
    ·have hil:i=ys.length:=by omega
     subst hil;have hrv2:=HRT.out.done (Nat.lt_trans HTV.out (by rw[Nat.pow_zero,Nat.mul_one];exact HV1.out));have e1:val qs=val xs/val ys:=by rw[HD1.out];exact Nat.mul_div_mul_right _ _ (Nat.two_pow_pos s)
     have e2:val rs=val xs%val ys:=by rw[hrv2,HD2.out,Nat.mul_mod_mul_right,Nat.mul_div_cancel _ (Nat.two_pow_pos s)]
     have E1:=ZH e1;have E2:=ZH e2;clear e1 e2 hrv2 hlt hi;go_wp2_with fail;refine(trim_row hrq hqo HQL.out (by omega)).mono ?_;rintro e w8 ⟨⟨rfl,hr8⟩,rfl⟩;rw[E1.out]at hr8⊢;go_wp2_with fail;refine(trim_row hrr hro HRL.out (by omega)).mono ?_;rintro e w9 ⟨⟨rfl,hr9⟩,rfl⟩;rw[E2.out]at hr9⊢;go_wp2;go_ret2;exact⟨⟨_,_,_,_,rfl,hr8,hr9⟩,hbel⟩
end Go.Proofs.YtpnmcacndjkfaaaGreat
set_option maxHeartbeats 1000000
set_option maxRecDepth 100000
namespace Go.Proofs.YtpnmcacndjkfaaaGreat
open Go.RowKit Num
theorem wp_appN {ops:Array Oper}{rest:List Oper}{o:Oper}{a:Act}{Q:Exit→Act→World→Prop}(s x:Operand)(w:World)(base:Nat)(v:Value)(xs:List Nat)(ad:Addr)(c:Nat)(ys:List Nat)(hown:Own w base v xs)(hr:Rd w (some ad) c ys)(hb:base≤w.heap.size)(hlen:xs.length≤1000000)(hlen2:ys.length≤1000000)(hgd:o.guard=none)(ho:o.op= .call {callee:= .builtin .append,args:= #[s,x],argTypes:= #[29,29]})(hs:a.eval s=v)(hx:a.eval x= .slice (some ad) ys.length c)(K:∀v' w',Own w' base v' (xs++ys)→w.grownBy w' v.ownBlock→Below base w w'→wpList Tryz.prog ops Q rest (a.put o.dst v') w'):wpList Tryz.prog ops Q (o::rest) a w:=by
 obtain⟨i0,hi,hz0,hz1,hz2⟩:=info_parts info_u32;refine wpList_append_own _ hgd s x 29 ho base 149 i0 (.int .u32 0) 1 4 Tryz.underlying29 hi hz0 hz1 hz2 rfl (by decide) v xs.length (xs.map dv) hs hown ad ys.length c (ys.map dv) hx (by simp)
  ?_ ?_ ?_ ?_ hb ?_
 ·intro j u hj;have hjl:j<ys.length:=by
   have:=(List.getElem?_eq_some_iff.1 hj).1;simpa using this
  obtain⟨b,o',hA,hlt,hc⟩:=hr.at_ (by rintro rfl;simp at hjl);have hA':ad=⟨b,o',none⟩:=Option.some.inj hA;rw[hA',add_lit',hc j hjl];rw[List.getElem?_map,List.getElem?_eq_getElem hjl]at hj;exact hj
 ·exact dv_oneCell ys
 ·unfold maxLen;omega
 ·omega
 ·intro v' w' h1 h2 _;refine K v' w' ?_ h2 ?_
  ·unfold Own;simpa using h1
  ·exact(Below.refl base w).grown h2 hb (fun k hk=>(hown.lt k hk).1)
theorem clone_any (A:Option Addr)(c:Nat)(xs:List Nat)(w:World)(ha:Rd w A c xs)(hs:xs.length≤100000):Calls Tryz.prog 149 #[.slice A xs.length c] w fun e w'=>RetS w w' e xs:=by
 rcases A with _|ad
 ·have hx:xs=[]:=by
   rcases xs with _|⟨x,xs⟩
   ·rfl
   ·obtain⟨b,o,h,_⟩:=ha.at_ (by simp);cases h
  subst hx;have hq:=fun(w:World)=>Lib.run_eql_slice_nil (P:=Tryz.prog) w 29 149 none 0 c 0 0 Tryz.underlying29;go_enter Tryz.func149,Tryz.ntmps149;go_wp2;go_ret;exact⟨⟨none,0,rfl,Rd.nil⟩,Below.refl _ _⟩
 ·have hq:=fun(w:World)=>Lib.run_eql_slice_nil (P:=Tryz.prog) w 29 149 (some ad) xs.length c 0 0 Tryz.underlying29;have hown:Own (w.alloc (.cells #[] 149)) w.heap.size (.slice (some ⟨w.heap.size,0,none⟩) 0 0) []:=World.ownsRow_made w #[] 0 ZL (by simp[maxLen]) (by simp);have hra:=ha.alloc (.cells #[] 149);have hbel:Below w.heap.size w (w.alloc (.cells #[] 149)):=(Below.refl _ _).alloc ZL _;go_enter Tryz.func149,Tryz.ntmps149;go_wp2_with (at_builtin;refine wp_appN _ _ _ w.heap.size _ [] ad c xs hown hra hbel.size (by simp) (by omega) rfl rfl rfl rfl ?_;intro v' w' hown' _ hbel');obtain⟨A2,c2,rfl,hr2⟩:=hown'.rd ha.ok;go_ret;exact⟨⟨A2,c2,rfl,hr2⟩,hbel.trans hbel'⟩
theorem len_one {ys:List Nat}(h:ys.length=1):val ys=at0 ys 0:=by
 match ys,h with
 |[y],_=>simp[val,at0]
theorem divmod_any (A B:Option Addr)(c d:Nat)(xs ys:List Nat)(w:World)(ha:Rd w A c xs)(hb:Rd w B d ys):Calls Tryz.prog 123 #[.slice A xs.length c,.slice B ys.length d] w fun e w'=>RetSSE w w' e (divR xs ys):=by
 by_cases h1:rightB xs=true
 ·by_cases h2:rightB ys=true
  ·by_cases h3:ys=[]
   ·have hz:((ys.length:Int)==0)=true:=by simp[h3]
    have h3':decide (ys≠[])=false:=by simp[h3]
    clear h3;have HE:=ZH (divR_no (xs:=xs) (ys:=ys) (by rw[h3'];simp));go_enter Tryz.func123,Tryz.ntmps123;go_wp2_with (go_at_call 113;refine(right_any _ _ _ _ (by first|exact ha|exact hb)).mono ?_;rintro e w' ⟨rfl,rfl⟩);go_ret3;rw[HE.out];exact⟨⟨none,0,none,0,rfl,Rd.nil,Rd.nil⟩,Below.refl _ _⟩
   ·have hl1:=right_len h1;have hl2:=right_len h2;have hd1:=right_dig ha.ok h1;have hd2:=right_dig hb.ok h2;have hf:Fine ys:=by rw[←hd2];exact fine_dig _
    have HE:=ZH (divR_eq h1 h2 h3);have hz:=len_zero_b h3;have hV:0<val ys:=val_pos_of_last hf h3;have HO:=fun w' ha' hb'=>order_any A B c d (val xs) (val ys) w' ha' hb' (by rw[hd1];omega) (by rw[hd2];omega);rw[hd1,hd2]at HO;have HO:=ZH HO;by_cases hlt:val xs<val ys
    ·have hn:=cmpN_pos_b hlt;have e1:dig (val xs/val ys)=[]:=by rw[Nat.div_eq_of_lt hlt];rfl
     have e2:dig (val xs%val ys)=xs:=by rw[Nat.mod_eq_of_lt hlt,hd1]
     have E:=ZH (And.intro e1 e2);clear e1 e2 hd1 hd2 hlt;go_enter Tryz.func123,Tryz.ntmps123;go_wp2_with (first
      |(go_at_call 113;refine(right_any _ _ _ _ (by first|exact ha|exact hb)).mono ?_;rintro e w' ⟨rfl,rfl⟩)
      |(go_at_call 114;refine(HO.out _ ha hb).mono ?_;rintro e w' ⟨rfl,q0,rfl⟩)
      |(go_at_call 149;refine(clone_any _ _ _ _ (ha.drewN q0) (by omega)).mono ?_;rintro e w1 ⟨⟨A1,c1,rfl,hr1⟩,hb1⟩))
     go_ret3;rw[HE.out];refine⟨⟨none,0,A1,c1,?_,?_,?_⟩,((Read.refl w).drewN q0|>.below _).trans hb1⟩
     ·rw[E.out.1,E.out.2];rfl
     ·rw[E.out.1];exact Rd.nil
     ·rw[E.out.2];exact hr1
    ·have hn:=cmpN_neg_b hlt;have hlen:ys.length≤xs.length:=by rw[←hd1,←hd2];exact dig_len_mono (by omega)
     clear hd1 hd2 hlt;by_cases hone:ys.length=1
     ·have ho1:((ys.length:Int)==1)=true:=by simp[hone]
      obtain⟨b2,o2,rfl,hb2,hc2⟩:=hb.at_ h3;have g1:=hc2 0 (by omega);rw[Nat.add_zero,←at0_in]at g1;have hvy:=len_one hone;have hy:=at0_lt hb.ok 0;rw[hvy]at hV HE;have hp:(0:Int)<(ys.length:Int):=by omega
      generalize at0 ys 0=y at*;have hmod:val xs%y<y:=Nat.mod_lt _ hV;obtain⟨r,hr⟩:∃r,r=val xs%y:=⟨_,rfl⟩;rw[←hr]at hmod HE;have HR:=ZH hr;clear hvy hc2 hone hr;go_enter Tryz.func123,Tryz.ntmps123;go_wp2_with (first
       |(go_at_call 113;refine(right_any _ _ _ _ (by first|exact ha|exact hb)).mono ?_;rintro e w' ⟨rfl,rfl⟩)
       |(go_at_call 114;refine(HO.out _ ha hb).mono ?_;rintro e w' ⟨rfl,q0,rfl⟩)
       |(go_at_call 124;refine(small_any _ _ _ _ _ (ha.drewN q0) (by omega) hV hy).mono ?_;rintro e w1 ⟨⟨A1,c1,rfl,hr1,_⟩,hb1⟩;rw[←HR.out])
       |(go_at_call 76;refine(of_any r _ (by omega)).mono ?_;rintro e w2 ⟨⟨A2,c2,rfl,hr2⟩,hb2'⟩))
      go_ret3;rw[HE.out];exact⟨⟨A1,c1,A2,c2,rfl,hr1.below hb2' ZL,hr2⟩,((Read.refl w).drewN q0|>.below _).trans (hb1.trans (hb2'.mono hb1.size))⟩
     ·have ho1:((ys.length:Int)==1)=false:=by simp;omega
      have hy2:2≤ys.length:=by have:=List.length_pos_iff.2 h3;omega
      go_enter Tryz.func123,Tryz.ntmps123;go_wp2_with (first
       |(go_at_call 113;refine(right_any _ _ _ _ (by first|exact ha|exact hb)).mono ?_;rintro e w' ⟨rfl,rfl⟩)
       |(go_at_call 114;refine(HO.out _ ha hb).mono ?_;rintro e w' ⟨rfl,q0,rfl⟩)
       |(go_at_call 150;refine(long_any _ _ _ _ _ _ _ (ha.drewN q0) (hb.drewN q0) hl1 hl2 hlen hy2 hf).mono ?_;rintro e w1 ⟨⟨A1,c1,A2,c2,rfl,hr1,hr2⟩,hb1⟩))
      go_ret3;rw[HE.out];exact⟨⟨A1,c1,A2,c2,rfl,hr1,hr2⟩,((Read.refl w).drewN q0|>.below _).trans hb1⟩
  ·have h2':rightB ys=false:=by simpa using h2
   clear h2;have HE:=ZH (divR_no (xs:=xs) (ys:=ys) (by rw[h2'];simp));go_enter Tryz.func123,Tryz.ntmps123;go_wp2_with (go_at_call 113;refine(right_any _ _ _ _ (by first|exact ha|exact hb)).mono ?_;rintro e w' ⟨rfl,rfl⟩);go_ret3;rw[HE.out];exact⟨⟨none,0,none,0,rfl,Rd.nil,Rd.nil⟩,Below.refl _ _⟩
 ·have h1':rightB xs=false:=by simpa using h1
  clear h1;have HE:=ZH (divR_no (xs:=xs) (ys:=ys) (by rw[h1'];simp));go_enter Tryz.func123,Tryz.ntmps123;go_wp2_with (go_at_call 113;refine(right_any _ _ _ _ (by first|exact ha|exact hb)).mono ?_;rintro e w' ⟨rfl,rfl⟩);go_ret3;rw[HE.out];exact⟨⟨none,0,none,0,rfl,Rd.nil,Rd.nil⟩,Below.refl _ _⟩
end Go.Proofs.YtpnmcacndjkfaaaGreat
namespace Go.Proofs.YtpnmcacndjkfaaaGreat.Num
def decF:Nat→Nat→List UInt8
 |0,_=>[]
 |f+1,n=>if n=0 then[] else UInt8.ofNat (48+n%10)::decF f (n/10)
def decR (n:Nat):List UInt8:=decF n n
def decS (n:Nat):List UInt8:=if n=0 then[48] else(decR n).reverse
theorem decF_eq (f g n:Nat)(hf:n≤f)(hg:n≤g):decF f n=decF g n:=by
 induction f generalizing n g with
 |zero=>
  have:n=0:=by omega
  subst this;cases g<;>simp[decF]
 |succ f ih=>
  cases g with
  |zero=>
   have:n=0:=by omega
   subst this;simp[decF]
  |succ g=>
   unfold decF;split
   ·rfl
   ·rw[ih g (n/10) (by omega) (by omega)]
theorem decR_zero:decR 0=[]:=rfl
theorem decR_pos (n:Nat)(h:0<n):decR n=UInt8.ofNat (48+n%10)::decR (n/10):=by
 show decF n n=_;obtain⟨m,rfl⟩:∃m,n=m+1:=⟨n-1,by omega⟩;rw[decF,if_neg (by omega)];rw[decF_eq m ((m+1)/10) _ (by omega) ZL];rfl
theorem decR_len {n k:Nat}(h:n<10^k):(decR n).length≤k:=by
 induction k generalizing n with
 |zero=>
  have:n=0:=by simpa using h
  subst this;simp[decR_zero]
 |succ k ih=>
  by_cases h0:n=0
  ·subst h0;simp[decR_zero]
  ·rw[decR_pos n (by omega)];have:n/10<10^k:=by
    rw[Nat.div_lt_iff_lt_mul (by decide)];rwa[Nat.pow_succ]at h
   have:=ih this;simp;omega
theorem dec_bound {n k:Nat}(h:n<4294967296^k):n<10^(10*k):=by
 refine Nat.lt_of_lt_of_le h ?_;rw[Nat.pow_mul];exact Nat.pow_le_pow_left (by decide) k
theorem decR_len_dig {n k:Nat}(h:(dig n).length≤k):(decR n).length≤10*k:=decR_len (dec_bound (le_of_dig_length h))
def TextTo (N q left i:Nat)(outs:List UInt8):Prop:=i≤9∧left<10^(9-i)∧decR N=outs++decR (q*10^(9-i)+left)
theorem TextTo.start {N a:Nat}{outs:List UInt8}(h:decR N=outs++decR a):TextTo N (a/1000000000) (a%1000000000) 0 outs:=by
 refine⟨by decide,Nat.mod_lt _ (by decide),?_⟩;rw[h];congr 2;have:=Nat.div_add_mod a 1000000000;show a=a/1000000000*10^9+a%1000000000;omega
theorem TextTo.step {N q left i:Nat}{outs:List UInt8}(h:TextTo N q left i outs)(hi:i<9)(hp:0<q∨0<left):TextTo N q (left/10) (i+1) (outs++[UInt8.ofNat (48+left%10)]):=by
 obtain⟨h1,h2,h3⟩:=h;have e:9-i=(9-(i+1))+1:=by omega
 rw[e,Nat.pow_succ]at h2 h3;generalize hP:10^(9-(i+1))=P at*;have hP0:0<P:=by rw[←hP];exact Nat.pow_pos (by decide)
 refine⟨by omega,by rw[hP];omega,?_⟩;rw[hP];have e2:q*(P*10)=q*P*10:=(Nat.mul_assoc _ _ _).symm;rw[e2]at h3;have hpos:0<q*P*10+left:=by
  rcases hp with hp|hp
  ·have:0<q*P:=Nat.mul_pos hp hP0;omega
  ·omega
 rw[decR_pos _ hpos]at h3;have e3:(q*P*10+left)%10=left%10:=by omega
 have e4:(q*P*10+left)/10=q*P+left/10:=by omega
 rw[e3,e4]at h3;rw[h3,List.append_assoc];rfl
theorem TextTo.out9 {N q left:Nat}{outs:List UInt8}(h:TextTo N q left 9 outs):decR N=outs++decR q:=by
 obtain⟨h1,h2,h3⟩:=h;have:left=0:=by simpa using h2
 subst this;simpa using h3
theorem TextTo.out0 {N q left i:Nat}{outs:List UInt8}(h:TextTo N q left i outs)(hq:q=0)(hl:left=0):decR N=outs++decR q:=by
 obtain⟨h1,h2,h3⟩:=h;subst hq hl;simpa using h3
def RevTo (bs:List UInt8)(i:Nat)(cs:List UInt8):Prop:=cs.length=bs.length∧∀p,cs[p]? =if p<bs.length∧(p<i∨bs.length≤p+i) then bs[bs.length-1-p]? else bs[p]?
theorem RevTo.zero (bs:List UInt8):RevTo bs 0 bs:=by
 refine⟨rfl,fun p=> ?_⟩;rw[if_neg (by omega)]
theorem RevTo.step {bs cs:List UInt8}{i:Nat}(h:RevTo bs i cs)(hi:i+1+i<bs.length)(h1:i<cs.length)(h2:bs.length-1-i<cs.length):RevTo bs (i+1) ((cs.set i cs[bs.length-1-i]).set (bs.length-1-i) cs[i]):=by
 obtain⟨hl,hc⟩:=h;refine⟨by simp[hl],fun p=> ?_⟩;have e1:=hc i;have e2:=hc (bs.length-1-i);rw[if_neg (by omega),List.getElem?_eq_getElem h1]at e1;rw[if_neg (by omega),List.getElem?_eq_getElem h2]at e2;have hcp:=hc p;rw[List.getElem?_set,List.getElem?_set];by_cases hp1:bs.length-1-i=p
 ·subst hp1;rw[if_pos rfl,if_pos (by simp;omega),if_pos (by omega),e1];congr 1;omega
 ·rw[if_neg hp1];by_cases hp2:i=p
  ·subst hp2;rw[if_pos rfl,if_pos h1,if_pos (by omega),e2]
  ·rw[if_neg hp2,hcp];by_cases hp3:p<bs.length∧(p<i∨bs.length≤p+i)
   ·rw[if_pos hp3,if_pos (by omega)]
   ·rw[if_neg hp3,if_neg (by omega)]
theorem RevTo.done {bs cs:List UInt8}{i:Nat}(h:RevTo bs i cs)(hi:bs.length≤i+1+i):cs=bs.reverse:=by
 obtain⟨hl,hc⟩:=h;apply List.ext_getElem?;intro p;rw[hc p];by_cases hp:p<bs.length
 ·rw[List.getElem?_reverse hp];by_cases h2:p<i∨bs.length≤p+i
  ·rw[if_pos ⟨hp,h2⟩]
  ·rw[if_neg (fun h=>h2 h.2)];congr 1;omega
 ·rw[if_neg (fun h=>hp h.1),List.getElem?_eq_none (by omega),List.getElem?_eq_none (by simp;omega)]
end Go.Proofs.YtpnmcacndjkfaaaGreat.Num
set_option maxHeartbeats 1000000
set_option maxRecDepth 100000
namespace Go.Proofs.YtpnmcacndjkfaaaGreat
open Go.RowKit Num
def bv (b:UInt8):Value:= .int .u8 (b.toNat:Int)
def OwnB (w:World)(base:Nat)(v:Value)(bs:List UInt8):Prop:=w.ownsRow base 5 1 v bs.length (bs.map bv)
theorem info_u8:(Tryz.prog.info? 5).map (fun i=>(i.zero,i.size,i.bytes))=some (some (.int .u8 0),1,1):=by kernel_rfl
theorem OwnB.nil (w:World)(base:Nat):OwnB w base (.slice none 0 0) []:=World.ownsRow_nil w base 5 1
theorem OwnB.alloc {w:World}{base:Nat}{v:Value}{xs:List UInt8}(h:OwnB w base v xs)(o:Obj):OwnB (w.alloc o) base v xs:=World.ownsRow.alloc h o
theorem OwnB.drewN {w:World}{base:Nat}{v:Value}{xs:List UInt8}(h:OwnB w base v xs)(n:Nat):OwnB (w.drewN n) base v xs:=h
theorem OwnB.below {w w':World}{base:Nat}{v:Value}{xs:List UInt8}(h:OwnB w base v xs){B:Nat}(hb:Below B w w')(hB:w.heap.size≤B):OwnB w' base v xs:=by
 obtain⟨h1,h2⟩:=h;refine⟨h1,?_⟩;rcases h2 with h2|⟨g,cap,cur,hv,hg,hh,r⟩
 ·exact Or.inl h2
 ·have:g<w.heap.size:=(Array.getElem?_eq_some_iff.1 hh).1;exact Or.inr ⟨g,cap,cur,hv,hg,by rw[hb.block g (by omega)];exact hh,r⟩
theorem OwnB.form {w:World}{base:Nat}{v:Value}{xs:List UInt8}(h:OwnB w base v xs):(v= .slice none 0 0∧xs=[])∨∃g cap,v= .slice (some ⟨g,0,none⟩) xs.length cap∧base≤g∧xs.length≤cap∧cap≤maxLen:=by
 rcases h.2 with ⟨hv,h0⟩|⟨g,cap,cur,hv,hg,_,hc,hm,_⟩
 ·exact .inl ⟨hv,List.eq_nil_of_length_eq_zero h0⟩
 ·exact .inr ⟨g,cap,hv,hg,hc,hm⟩
theorem wp_appb1 {ops:Array Oper}{rest:List Oper}{o:Oper}{a:Act}{Q:Exit→Act→World→Prop}(s x:Operand)(w:World)(base:Nat)(v:Value)(xs:List UInt8)(d:UInt8){D:Int}(hD:D=(d.toNat:Int))(hown:OwnB w base v xs)(hb:base≤w.heap.size)(hlen:xs.length≤100000000)(hgd:o.guard=none)(ho:o.op= .call {callee:= .builtin .append,args:= #[s,x],argTypes:= #[168,168]})(hs:a.eval s=v)(hx:a.eval x= .slice (some ⟨w.heap.size,0,none⟩) 1 1)(K:∀v' w',OwnB w' base v' (xs++[d])→w.grownBy w' v.ownBlock→Below base w w'→(v'.ownBlock=v.ownBlock∨∃g,v'.ownBlock=some g∧w.heap.size≤g)→wpList Tryz.prog ops Q rest (a.put o.dst v') w'):wpList Tryz.prog ops Q (o::rest) a (w.alloc (.cells #[.int .u8 D] 5)):=by
 subst hD;obtain⟨i0,hi,hz0,hz1,hz2⟩:=info_parts info_u8;have hsz:(w.alloc (.cells #[.int .u8 (d.toNat:Int)] 5)).heap.size=w.heap.size+1:=by simp
 refine wpList_append_own_at _ hgd s x 168 ho base 5 i0 (.int .u8 0) 1 1 Tryz.underlying168 hi hz0 hz1 hz2 rfl (by decide) v xs.length (xs.map bv) hs (hown.alloc _) ⟨w.heap.size,0,none⟩ 1 1 [bv d] hx rfl
  ?_ ?_ ?_ ?_ ?_ ?_
 ·intro j u hj;match j,hj with
  |0,hj=>
   simp at hj;subst hj;simp[Addr.add,bv]
 ·intro u hu;simp at hu;subst hu;rfl
 ·unfold maxLen;omega
 ·omega
 ·rw[hsz];omega
 ·intro v' w' h1 h2 _ hat;have hg:w.grownBy w' v.ownBlock:=⟨h2.os,h2.tape,h2.output,by have:=h2.size;rw[hsz]at this;omega,fun k hk hne=>by
   rw[h2.block k (by rw[hsz];omega) hne];exact Below.heap_alloc w _ k hk⟩
  refine K v' w' ?_ hg ?_ (hat.imp id (fun h=>⟨_,h,by rw[hsz];omega⟩))
  ·unfold OwnB;simpa using h1
  ·refine(Below.refl base w).grown hg hb (fun k hk=>(hown.lt k hk).1)
theorem OwnB.text {w:World}{base:Nat}{v:Value}{xs:List UInt8}(h:OwnB w base v xs)(hne:xs≠[]):(convert 168 9 v).run Tryz.prog w= .ok (.string ⟨xs.toArray⟩) w:=by
 rcases h.form with ⟨_,h0⟩|⟨g,cap,rfl,_,hc,hm⟩
 ·exact absurd h0 hne
 ·refine run_convert_bytes_back w 168 9 5 ⟨g,0,none⟩ cap xs Tryz.underlying168 Tryz.underlying5 Tryz.underlying9 (fun j hj=> ?_);have:=World.ownsRow.cellAt h j (by omega);have e:(⟨g,0,none⟩:Addr).add j=⟨g,j,none⟩:=by unfold Addr.add;split<;>simp_all
  rw[e,this];simp[hj,bv]
theorem OwnB.set {w:World}{base g cap n:Nat}{xs:List UInt8}(h:OwnB w base (.slice (some ⟨g,0,none⟩) n cap) xs)(hn:xs.length=n)(j:Nat)(d:UInt8):OwnB (w.setCell ⟨g,j,none⟩ (.int .u8 (d.toNat:Int))) base (.slice (some ⟨g,0,none⟩) n cap) (xs.set j d)∧w.grownBy (w.setCell ⟨g,j,none⟩ (.int .u8 (d.toNat:Int))) (some g):=by
 subst hn;have:=World.ownsRow.stored h j (bv d);refine⟨?_,this.2⟩;unfold OwnB;rw[List.length_set,List.map_set];exact this.1
def RdOff (w:World)(A:Option Addr)(c:Nat)(xs:List Nat)(v:Value):Prop:=Rd w A c xs∧(xs≠[]→∀a g,A=some a→v.ownBlock=some g→a.block≠g)
theorem RdOff.app {w w':World}{A:Option Addr}{c:Nat}{xs:List Nat}{v v':Value}(h:RdOff w A c xs v)(hg:w.grownBy w' v.ownBlock)(hat:v'.ownBlock=v.ownBlock∨∃g,v'.ownBlock=some g∧w.heap.size≤g):RdOff w' A c xs v':=by
 obtain⟨h1,h2⟩:=h;refine⟨⟨h1.room,h1.cap,h1.ok,fun hn=> ?_⟩,fun hn a g ha hv=> ?_⟩
 ·obtain⟨b,o,hA,hlt,hc⟩:=h1.at_ hn;exact⟨b,o,hA,Nat.lt_of_lt_of_le hlt hg.size,fun j hj=>hg.cell (hc j hj) (fun e=>h2 hn _ _ hA e.symm rfl)⟩
 ·rcases hat with e|⟨g',e,hge⟩
  ·exact h2 hn a g ha (e▸hv)
  ·obtain⟨b,o,hA,hlt,hc⟩:=h1.at_ hn;rw[hA]at ha;have ha':a=⟨b,o,none⟩:=(Option.some.inj ha).symm;rw[e]at hv;have hg':g'=g:=Option.some.inj hv;subst ha';show b≠g;omega
theorem RdOff.fresh {w w1:World}{base:Nat}{A:Option Addr}{c:Nat}{xs:List Nat}{v:Value}{bs:List UInt8}(h:Rd w1 A c xs)(hf:∀a,A=some a→w.heap.size≤a.block)(ho:OwnB w base v bs):RdOff w1 A c xs v:=
 ⟨h,fun _ a g ha hv=>by have:=(World.ownsRow.lt ho g hv).2;have:=hf a ha;omega⟩
theorem RdOff.old {w:World}{A:Option Addr}{c:Nat}{xs:List Nat}(h:Rd w A c xs):RdOff w A c xs (.slice none 0 0):=⟨h,fun _ a g _ hv=>by cases hv⟩
theorem reverse_any (base g cap:Nat)(bs:List UInt8)(w:World)(h:OwnB w base (.slice (some ⟨g,0,none⟩) bs.length cap) bs)(hs:bs.length≤100000000):Calls Tryz.prog 125 #[.slice (some ⟨g,0,none⟩) bs.length cap] w fun e w'=>(e= .returned (.tuple #[])∧OwnB w' base (.slice (some ⟨g,0,none⟩) bs.length cap) bs.reverse)∧w.grownBy w' (some g):=by
 go_enter Tryz.func125,Tryz.ntmps125;go_wp2;go_loopw [2,3] (fun iv jv wr=>∃(i:Nat)(cs:List UInt8),i≤bs.length∧iv= .int .i64 i∧jv= .int .i64 ((bs.length:Int)-1-i)∧RevTo bs i cs∧OwnB wr base (.slice (some ⟨g,0,none⟩) bs.length cap) cs∧w.grownBy wr (some g)) (fun iv _ _=>bs.length-(intOf iv).toNat)
 case atStart=>exact⟨0,bs,by omega,rfl,by go_num,RevTo.zero bs,h,⟨rfl,rfl,rfl,Nat.le_refl _,fun _ _ _=>rfl⟩⟩
 case round=>
  obtain⟨i,cs,hi,rfl,rfl,hrt,hown,hg⟩:=hrel;clear h;have hcl:=hrt.1;by_cases hlt:i+1+i<bs.length
  ·have hown':wr.ownsRow base 5 1 (.slice (some ⟨g,0,none⟩) bs.length cap) bs.length (cs.map bv):=by
    have:=hown;unfold OwnB at this;rwa[hcl]at this
   have hi1:i<cs.length:=by omega
   have hi2:bs.length-1-i<cs.length:=by omega
   have g1:wr.cell? ⟨g,i,none⟩=some (.int .u8 (cs[i].toNat:Int)):=by rw[World.ownsRow.cellAt hown' i (by omega)];simp[hi1,bv]
   have g2:wr.cell? ⟨g,bs.length-1-i,none⟩=some (.int .u8 (cs[bs.length-1-i].toNat:Int)):=by rw[World.ownsRow.cellAt hown' _ (by omega)];simp[hi2,bv]
   have f1:=World.ownsRow.frozenAt hown' i;have f2:=World.ownsRow.frozenAt hown' (bs.length-1-i);have HN:=ZH (hrt.step hlt hi1 hi2);have HCL:=ZH hcl;have hne:¬i=bs.length-1-i:=by omega
   clear hrt hcl;go_wp2;go_region;go_wp2;have o1:=hown.set HCL.out i cs[bs.length-1-i];have o2:=o1.1.set (by rw[List.length_set];exact HCL.out) (bs.length-1-i) cs[i];have hg2:w.grownBy _ (some g):=⟨o2.2.os.trans (o1.2.os.trans hg.os),o2.2.tape.trans (o1.2.tape.trans hg.tape),o2.2.output.trans (o1.2.output.trans hg.output),Nat.le_trans hg.size (Nat.le_trans o1.2.size o2.2.size),
    fun k hk hne=>(o2.2.block k (Nat.lt_of_lt_of_le hk (Nat.le_trans hg.size o1.2.size)) hne).trans ((o1.2.block k (Nat.lt_of_lt_of_le hk hg.size) hne).trans (hg.block k hk hne))⟩
   refine⟨⟨i+1,_,by omega,by go_num,by go_num,HN.out,o2.1,⟨hg2.os,hg2.tape,hg2.output,hg2.size,hg2.block⟩⟩,by simp[intOf];omega⟩
  ·have hd:=hrt.done (by omega);have HD:=ZH hd;clear hd hrt hcl;go_wp2;go_end0;rw[←HD.out];exact⟨⟨rfl,hown⟩,hg⟩
end Go.Proofs.YtpnmcacndjkfaaaGreat

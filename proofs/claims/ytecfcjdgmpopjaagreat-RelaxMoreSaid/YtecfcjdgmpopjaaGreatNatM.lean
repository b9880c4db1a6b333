/-
  Joined texts: NatJ, NatK, NatL, NatM.
-/
import Derived.Test.YtecfcjdgmpopjaaGreatNatH
import Derived.Test.YtecfcjdgmpopjaaGreatDivP
set_option maxHeartbeats 1000000
set_option maxRecDepth 100000
namespace Go.Proofs.YtecfcjdgmpopjaaGreat
open Go.RowKit Num
def RetRow (w w':World)(e:Ending)(os:List Nat):Prop:=(∃g,e= .returned (.slice (some ⟨g,0,none⟩) os.length os.length)∧Row w' g os∧w.heap.size≤g)∧Below w.heap.size w w'
theorem shl_fits {d s:Nat}(hd:d<4294967296)(hs:s≤31):∃N:Nat,IntKind.u64.wrap ((d:Int)*2^s)=(N:Int)∧N=d*2^s∧N<9223372036854775808∧N/4294967296<2^s:=by
 have h1:2^s≤2^31:=Nat.pow_le_pow_right (by decide) hs;have h0:0<2^s:=Nat.two_pow_pos s;have h2:d*2^s≤4294967295*2^31:=Nat.mul_le_mul (by omega) h1;have h3:d*2^s<4294967296*2^s:=Nat.mul_lt_mul_of_pos_right hd h0;have e:((d:Int)*2^s)=((d*2^s:Nat):Int):=by rw[Int.natCast_mul,Int.natCast_pow];rfl
 refine⟨d*2^s,?_,rfl,by omega,by rw[Nat.div_lt_iff_lt_mul (by decide),Nat.mul_comm (2^s)];exact h3⟩;rw[e,IntWalk.u64_in _ (by omega)]
theorem or_low {o N d s:Nat}(hs:s≤31)(hN:N=d*2^s)(ho:o<2^s):bits .or .u32 (o:Int) ((N:Int)%4294967296)=((o+N%4294967296:Nat):Int)∧o+N%4294967296<4294967296:=by
 have h0:0<2^s:=Nat.two_pow_pos s;have h1:2^s≤2^31:=Nat.pow_le_pow_right (by decide) hs;have hm:N%4294967296%2^s=0:=by
  have hdvd:2^s∣4294967296:=⟨2^(32-s),by rw[←Nat.pow_add,show s+(32-s)=32 by omega]⟩;rw[Nat.mod_mod_of_dvd _ hdvd,hN,Nat.mul_mod_left]
 have hlt:N%4294967296<4294967296:=Nat.mod_lt _ (by decide);have hsum:o+N%4294967296<4294967296:=by
  obtain⟨q,hq⟩:=Nat.dvd_of_mod_eq_zero hm;have hpow:2^(32-s)*2^s=4294967296:=by rw[←Nat.pow_add,show 32-s+s=32 by omega]
  have hq1:q<2^(32-s):=by
   rw[hq,←hpow,Nat.mul_comm (2^(32-s))]at hlt;exact Nat.lt_of_mul_lt_mul_left hlt
  have:(q+1)*2^s≤2^(32-s)*2^s:=Nat.mul_le_mul_right _ hq1;rw[hpow,Nat.add_mul,Nat.one_mul,Nat.mul_comm q]at this;omega
 refine⟨?_,hsum⟩;have e:((N:Int)%4294967296)=((N%4294967296:Nat):Int):=by omega
 rw[e,u32_or_nat _ _ (by omega) hlt,Nat.or_comm,nat_join s _ _ hm ho];congr 1;omega
theorem shift_any (A:Option Addr)(c:Nat)(xs:List Nat)(s:Nat)(w:World)(ha:Rd w A c xs)(hs:xs.length≤100000)(hsh:s≤31):Calls Tryz.prog 211 #[.slice A xs.length c,.int .i64 s] w fun e w'=>∃os,ShiftTo xs s xs.length os∧RetRow w w' e os:=by
 go_enter Tryz.func211,Tryz.ntmps211;go_wp2_with (at_make;refine wp_makeN _ _ _ (xs.length+1) (by omega) (by omega) (by omega) rfl rfl rfl rfl ?_;intro w1 hrow1 hbel1);go_loopw [15] (fun i wr=>∃(k:Nat)(os:List Nat),k≤xs.length∧i= .int .i64 k∧ShiftTo xs s k os∧Row wr w.heap.size os∧Below w.heap.size w wr) (fun i _=>xs.length-(intOf i).toNat)
 case atStart=>exact⟨0,_,by omega,rfl,ShiftTo.zero xs s,hrow1,hbel1⟩
 case round=>
  obtain⟨i,os,hi,rfl,hst,hrow,hbel⟩:=hrel;clear hrow1 hbel1;have HOL:=ZH hst.2.1;have hok:=hst.1;have hlo:=hst.2.2.1;have HS:=ZH hst;clear hst;by_cases hlt:i<xs.length
  ·obtain⟨b1,o1,rfl,hb1,hc1⟩:=ha.at_ (by rintro rfl;simp at hlt);have g1:wr.cell? ⟨b1,o1+i,none⟩=some (.int .u32 (xs[i]'hlt)):=(hbel.cell (p:=⟨b1,o1+i,none⟩) hb1).trans (hc1 i hlt);have hd1:=ha.ok.get hlt;have HD1:=ZH (at0_in hlt);clear hc1;have hik:i<os.length:=by have:=HOL.out;omega
   have hik1:i+1<os.length:=by have:=HOL.out;omega
   have g3:=hrow.cell hik;have g4:=hrow.frozen i;have g5:=hrow.frozen (i+1);have g6:=hrow.cell hik1;generalize hxi:xs[i]=di at*;clear hxi;rw[at0_in hik]at hlo;generalize hoi:os[i]=oi at*;generalize hoi1:os[i+1]=oi1 at*;have HO:=ZH hoi;clear hoi hoi1;obtain⟨N,hN,hNd,hNb,hNh⟩:=shl_fits hd1 hsh;obtain⟨hor,hsum⟩:=or_low hsh hNd hlo;have HNd:=ZH hNd;have HNh:=ZH hNh;have HH:=ZH hsum;clear hNd hNh hlo hsum;go_wp2;go_roundw
   case rel=>
    have h2:2^s≤2^31:=Nat.pow_le_pow_right (by decide) hsh;have h3:=HNh.out;exact⟨i+1,(os.set i (oi+N%4294967296)).set (i+1) (N/4294967296),by omega,by go_num,
     HS.out.step hlt hik1 (by rw[at0_in hik,HO.out]) HH.out (by omega) HNh.out (by rw[HD1.out,←HNd.out];omega),
     (hrow.set i (oi+N%4294967296) (by omega)).set (i+1) _ (by omega),(hbel.setCell ZL _).setCell ZL _⟩
   case measure=>simp[intOf];omega
  ·have hil:i=xs.length:=by omega
   subst hil;go_wp2;go_ret;refine⟨os,HS.out,⟨w.heap.size,?_,hrow,Nat.le_refl _⟩,hbel⟩;rw[HOL.out];rfl
theorem guess_any (A B:Option Addr)(c d:Nat)(us vs:List Nat)(w:World)(ha:Rd w A c us)(hb:Rd w B d vs)(hu:3≤us.length)(hv:2≤vs.length)(hs:us.length≤100000)(ht:vs.length≤100000)(hpos:0<at0 vs (vs.length-1))(hle:at0 us (us.length-1)≤at0 vs (vs.length-1)):Calls Tryz.prog 212 #[.slice A us.length c,.slice B vs.length d] w fun e w'=>(∃q:Nat,e= .returned (.int .u64 q)∧GuessOk (at0 us (us.length-1)) (at0 us (us.length-2)) (at0 us (us.length-3)) (at0 vs (vs.length-1)) (at0 vs (vs.length-2)) q)∧Read w w':=by
 obtain⟨b1,o1,rfl,hb1,hc1⟩:=ha.at_ (by rintro rfl;simp at hu);obtain⟨b2,o2,rfl,hb2,hc2⟩:=hb.at_ (by rintro rfl;simp at hv);have g1:=hc1 (us.length-1) (by omega);have g2:=hc1 (us.length-2) (by omega);have g3:=hc1 (us.length-3) (by omega);have g4:=hc2 (vs.length-1) (by omega);have g5:=hc2 (vs.length-2) (by omega);rw[←at0_in]at g1 g2 g3 g4 g5;have l1:=at0_lt ha.ok (us.length-1);have l2:=at0_lt ha.ok (us.length-2);have l3:=at0_lt ha.ok (us.length-3);have l4:=at0_lt hb.ok (vs.length-1);have l5:=at0_lt hb.ok (vs.length-2);generalize at0 us (us.length-1)=u1 at*;generalize at0 us (us.length-2)=u2 at*;generalize at0 us (us.length-3)=u3 at*;generalize at0 vs (vs.length-1)=v1 at*;generalize at0 vs (vs.length-2)=v2 at*;clear hc1 hc2;have hjn:=or_join (u1:Int) (u2:Int) (by omega) (by omega) (by omega) (by omega);obtain⟨T,hT⟩:∃T:Nat,T=u1*4294967296+u2:=⟨_,rfl⟩;have hTi:(u1:Int)*4294967296+(u2:Int)=(T:Int):=by omega
 have hTb:T<18446744073709551616:=by omega
 rw[hTi]at hjn;have HT:=ZH hT;clear hT;have hq0:IntKind.u64.wrap ((T:Int)/(v1:Int))=((T/v1:Nat):Int):=by
  have:T/v1≤T:=Nat.div_le_self _ _;rw[show((T:Int)/(v1:Int))=((T/v1:Nat):Int) from(Int.natCast_ediv _ _).symm];generalize T/v1=Z at*;exact IntWalk.u64_in _ (by omega)
 have hr0:((T:Int)%(v1:Int))=((T%v1:Nat):Int):=(Int.natCast_emod _ _).symm;have hG:GuessTo u1 u2 u3 v1 v2 (T/v1) (T%v1):=by rw[HT.out];exact GuessTo.zero hpos l3
 have hqb:T/v1<18446744073709551616:=Nat.lt_of_le_of_lt (Nat.div_le_self _ _) hTb;have hrb:T%v1<4294967296:=Nat.lt_trans (Nat.mod_lt _ hpos) l4;have HG:=ZH hG;clear hG;generalize T/v1=q0 at*;generalize T%v1=r0 at*;go_enter Tryz.func212,Tryz.ntmps212;go_wp2;go_quiet (fail);go_wp2;go_loopw [8,9] (fun qv rv wr=>∃(q r:Nat),qv= .int .u64 q∧rv= .int .u64 r∧q<18446744073709551616∧r<4294967296∧Hid (GuessTo u1 u2 u3 v1 v2 q r)∧Read w wr) (fun _ rv _=>(4294967296-intOf rv).toNat)
 case atStart=>exact⟨q0,r0,rfl,by rw[hr0],hqb,hrb,HG,⟨_,rfl⟩⟩
 case round=>
  obtain⟨q,r,rfl,rfl,hq,hr,HG1,k0,rfl⟩:=hrel;clear hqb hrb HG hjn hq0 hr0 hTi;by_cases hbig:4294967296≤q
  ·have hqp:0<q:=by omega
   have hbd:decide ((4294967296:Int)≤(q:Int))=true:=dT (by omega);have HN:=ZH (HG1.out.step l3 (.inl hbig) hqp);clear hbig;by_cases hbr:4294967296≤r+v1
   ·have hrd:decide ((4294967296:Int)≤(r:Int)+(v1:Int))=true:=dT (by omega);have HR:=ZH hbr;clear hbr;go_wp2;go_quiet (fail);go_wp2;go_ret;refine⟨⟨q-1,ret_int (by omega),HN.out.out hle l2 (.inl HR.out)⟩,(by first|exact Read.refl _|exact⟨_,rfl⟩|exact Read.drewN ⟨_,rfl⟩ _|exact Read.drewN (Read.drewN ⟨_,rfl⟩ _) _|exact Read.drewN (Read.refl _) _)⟩
   ·have hrd:decide ((4294967296:Int)≤(r:Int)+(v1:Int))=false:=dF (by omega);go_wp2;go_quiet (fail);go_wp2;go_roundw
    case rel=>exact⟨q-1,r+v1,by go_num,by go_num,by omega,by omega,HN,(by first|exact Read.refl _|exact⟨_,rfl⟩|exact Read.drewN ⟨_,rfl⟩ _|exact Read.drewN (Read.drewN ⟨_,rfl⟩ _) _|exact Read.drewN (Read.refl _) _)⟩
    case measure=>simp[intOf];omega
  ·have hbd:decide ((4294967296:Int)≤(q:Int))=false:=dF (by omega);obtain⟨M,hM,hMn,hMb⟩:=digits_mul (a:=q) (b:=v2) (by omega) l5;have HMn:=ZH hMn;have hj2:=or_join (r:Int) (u3:Int) (by omega) (by omega) (by omega) (by omega);clear hMn;by_cases ht:r*4294967296+u3<M
   ·have HN:=ZH (HG1.out.step l3 (.inr (by rw[←HMn.out];exact ht)) (GuessTo.pos (u3:=u3) (v2:=v2) (q:=q) (r:=r) (.inr (by rw[←HMn.out];exact ht))));have hqp:=GuessTo.pos (u3:=u3) (v2:=v2) (q:=q) (r:=r) (.inr (by rw[←HMn.out];exact ht));have htd:decide ((r:Int)*4294967296+(u3:Int)<(M:Int))=true:=dT (by omega);clear ht;by_cases hbr:4294967296≤r+v1
    ·have hrd:decide ((4294967296:Int)≤(r:Int)+(v1:Int))=true:=dT (by omega);have HR:=ZH hbr;clear hbr;go_wp2;go_quiet (fail);go_wp2;go_ret;refine⟨⟨q-1,ret_int (by omega),HN.out.out hle l2 (.inl HR.out)⟩,(by first|exact Read.refl _|exact⟨_,rfl⟩|exact Read.drewN ⟨_,rfl⟩ _|exact Read.drewN (Read.drewN ⟨_,rfl⟩ _) _|exact Read.drewN (Read.refl _) _)⟩
    ·have hrd:decide ((4294967296:Int)≤(r:Int)+(v1:Int))=false:=dF (by omega);go_wp2;go_quiet (fail);go_wp2;go_roundw
     case rel=>exact⟨q-1,r+v1,by go_num,by go_num,by omega,by omega,HN,(by first|exact Read.refl _|exact⟨_,rfl⟩|exact Read.drewN ⟨_,rfl⟩ _|exact Read.drewN (Read.drewN ⟨_,rfl⟩ _) _|exact Read.drewN (Read.refl _) _)⟩
     case measure=>simp[intOf];omega
   ·have HX:=ZH (HG1.out.out hle l2 (.inr ⟨by omega,by rw[←HMn.out];omega⟩));have htd:decide ((r:Int)*4294967296+(u3:Int)<(M:Int))=false:=dF (by omega);go_wp2;go_quiet (fail);go_wp2;go_ret;exact⟨⟨q,rfl,HX.out⟩,(by first|exact Read.refl _|exact⟨_,rfl⟩|exact Read.drewN ⟨_,rfl⟩ _|exact Read.drewN (Read.drewN ⟨_,rfl⟩ _) _|exact Read.drewN (Read.refl _) _)⟩
theorem gb_refl (w:World)(row:Option Nat):w.grownBy w row:=⟨rfl,rfl,rfl,Nat.le_refl _,fun _ _ _=>rfl⟩
theorem gb_trans {w w' w'':World}{row:Option Nat}(h:w.grownBy w' row)(h':w'.grownBy w'' row):w.grownBy w'' row:=
 ⟨h'.os.trans h.os,h'.tape.trans h.tape,h'.output.trans h.output,Nat.le_trans h.size h'.size,fun k hk hne=>(h'.block k (Nat.lt_of_lt_of_le hk h.size) hne).trans (h.block k hk hne)⟩
theorem gb_set {w w':World}{g:Nat}(h:w.grownBy w' (some g))(i:Nat)(u:Value):w.grownBy (w'.setCell ⟨g,i,none⟩ u) (some g):=
 gb_trans h ⟨rfl,rfl,rfl,by simp[World.setCell],fun k _ hne=>Below.heap_setCell _ _ _ _ (fun e=>hne (by rw[e]))⟩
theorem Row.grown {w w':World}{g h:Nat}{xs:List Nat}(hr:Row w h xs)(hg:w.grownBy w' (some g))(hne:h≠g):Row w' h xs:=(hg.block h hr.lt (fun e=>hne (by injection e))).trans hr
def Off (A:Option Addr)(g:Nat):Prop:=∀a,A=some a→a.block≠g
theorem Rd.grown {w w':World}{A:Option Addr}{c g:Nat}{xs:List Nat}(h:Rd w A c xs)(hg:w.grownBy w' (some g))(hne:Off A g):Rd w' A c xs:=
 ⟨h.room,h.cap,h.ok,fun hn=>by
  obtain⟨b,o,hA,hlt,hc⟩:=h.at_ hn;exact⟨b,o,hA,Nat.lt_of_lt_of_le hlt hg.size,fun j hj=>hg.cell (hc j hj) (fun e=>hne _ hA (by simpa using e))⟩⟩
theorem below_grown {w0 w w':World}{B g:Nat}(h:Below B w0 w)(hg:w.grownBy w' (some g))(hB:B≤w.heap.size)(hgB:B≤g):Below B w0 w':=h.grown hg hB (by intro k hk;injection hk with hk;omega)
theorem less2_any (B:Option Addr)(d g j n cap:Nat)(us vs:List Nat)(q:Nat)(w:World)(hr:Row w g us)(ho:Ok us)(hb:Rd w B d vs)(hne:Off B g)(hn:us.length=j+n)(hm:vs.length<n)(hv:0<vs.length)(hq:q<4294967296)(hs:us.length≤100000):Calls Tryz.prog 213 #[.slice (some ⟨g,j,none⟩) n cap,.slice B vs.length d,.int .u64 q] w fun e w'=>(∃(us':List Nat)(bo:Nat),e= .returned (.bool ((bo:Int) !=0))∧LessEnd us (val vs) j vs.length q us' bo∧Row w' g us')∧w.grownBy w' (some g):=by
 obtain⟨b2,o2,rfl,hb2,hc2⟩:=hb.at_ (by rintro rfl;simp at hv);have hne':b2≠g:=hne _ rfl;have hvl:vs.length≤100000:=by omega
 have hHN:=ZH hn;go_enter Tryz.func213,Tryz.ntmps213;clear hn;go_wp2;go_loopw [7,8,13] (fun cv bv i wr=>∃(k:Nat)(ws:List Nat)(cr bo:Nat),k≤vs.length∧i= .int .i64 k∧cv= .int .u64 cr∧bv= .int .u32 bo∧LessTo us vs j q k ws cr bo∧Row wr g ws∧w.grownBy wr (some g)) (fun _ _ i _=>vs.length-(intOf i).toNat)
 case atStart=>exact⟨0,us,0,0,by omega,rfl,rfl,rfl,LessTo.zero ho j q,hr,gb_refl _ _⟩
 case round=>
  obtain⟨k,ws,cr,bo,hk,rfl,rfl,rfl,hlt0,hrow,hg⟩:=hrel;clear hr;have hcr:=hlt0.2.2.1;have hbo:=hlt0.2.2.2.1;have hok:=hlt0.1;have hwl:ws.length=j+n:=hlt0.2.1.trans hHN.out;have HL:=ZH hlt0;have hjk:j+k<ws.length:=by omega
  have HW:=ZH hwl;clear hlt0 hwl;have g3:=hrow.cell hjk;have g4:=hrow.frozen (j+k);have hd3:=hok.get hjk;generalize hoi:ws[j+k]=ui at*;have HO:=ZH hoi;clear hoi;by_cases hlt:k<vs.length
  ·have g1:wr.cell? ⟨b2,o2+k,none⟩=some (.int .u32 (vs[k]'hlt)):=hg.cell (hc2 k hlt) (by simpa using hne');have hd1:=hb.ok.get hlt;have HD1:=ZH (at0_in hlt);generalize hxi:vs[k]=di at*;clear hxi;obtain⟨M,hM,hMn,hMb⟩:=digits_mul hq hd1;have HMn:=ZH hMn;have hc1:=ZH hc2;clear hMn hc2;go_wp2_with (go_at_call 172;refine(sub32_any _ _ _ _ (by omega) (by omega) (by omega) (by omega) (by omega) (by omega)).mono ?_;rintro e w' ⟨⟨s,qq,rfl,hs',hqq,hsum⟩,rfl⟩;have HS:=ZH hsum;clear hsum);go_roundw
   case rel=>exact⟨k+1,ws.set (j+k) s,(cr+M)/4294967296,qq,by omega,by go_num,by go_num,rfl,HL.out.step (lo:=(cr+M)%4294967296) hjk hs' (by omega) hqq (by rw[HD1.out,←HMn.out];omega) (by rw[HO.out];have:=HS.out;omega),hrow.set _ _ rfl,gb_set hg _ _⟩
   case measure=>simp[intOf];omega
  ·have hkl:k=vs.length:=by omega
   subst hkl;clear hc2 hk hlt;go_wp2_with (go_at_call 172;refine(sub32_any _ _ _ _ (by omega) (by omega) (by omega) (by omega) (by omega) (by omega)).mono ?_;rintro e w' ⟨⟨s,qq,rfl,hs',hqq,hsum⟩,rfl⟩;have HS:=ZH hsum;clear hsum);go_ret;refine⟨⟨ws.set (j+vs.length) s,qq,rfl,HL.out.last rfl hjk hs' hqq (by rw[HO.out];have:=HS.out;omega),hrow.set _ _ rfl⟩,gb_set hg _ _⟩
theorem again_any (B:Option Addr)(d g j n cap:Nat)(us vs:List Nat)(w:World)(hr:Row w g us)(ho:Ok us)(hb:Rd w B d vs)(hne:Off B g)(hn:us.length=j+n)(hm:vs.length<n)(hv:0<vs.length)(hs:us.length≤100000):Calls Tryz.prog 214 #[.slice (some ⟨g,j,none⟩) n cap,.slice B vs.length d] w fun e w'=>(e= .returned (.tuple #[])∧∃us',AgainEnd us (val vs) j vs.length us'∧Row w' g us')∧w.grownBy w' (some g):=by
 obtain⟨b2,o2,rfl,hb2,hc2⟩:=hb.at_ (by rintro rfl;simp at hv);have hne':b2≠g:=hne _ rfl;have hvl:vs.length≤100000:=by omega
 have hHN:=ZH hn;go_enter Tryz.func214,Tryz.ntmps214;clear hn;go_wp2;go_loopw [4,9] (fun cv i wr=>∃(k:Nat)(ws:List Nat)(cr:Nat),k≤vs.length∧i= .int .i64 k∧cv= .int .u32 cr∧AgainTo us vs j k ws cr∧Row wr g ws∧w.grownBy wr (some g)) (fun _ i _=>vs.length-(intOf i).toNat)
 case atStart=>exact⟨0,us,0,by omega,rfl,rfl,AgainTo.zero ho j,hr,gb_refl _ _⟩
 case round=>
  obtain⟨k,ws,cr,hk,rfl,rfl,hlt0,hrow,hg⟩:=hrel;clear hr;have hcr:=hlt0.2.2.1;have hok:=hlt0.1;have hwl:ws.length=j+n:=hlt0.2.1.trans hHN.out;have HL:=ZH hlt0;have hjk:j+k<ws.length:=by omega
  have HW:=ZH hwl;clear hlt0 hwl;have g3:=hrow.cell hjk;have g4:=hrow.frozen (j+k);have hd3:=hok.get hjk;generalize hoi:ws[j+k]=ui at*;have HO:=ZH hoi;clear hoi;by_cases hlt:k<vs.length
  ·have g1:wr.cell? ⟨b2,o2+k,none⟩=some (.int .u32 (vs[k]'hlt)):=hg.cell (hc2 k hlt) (by simpa using hne');have hd1:=hb.ok.get hlt;have HD1:=ZH (at0_in hlt);generalize hxi:vs[k]=di at*;clear hxi;have hc1:=ZH hc2;clear hc2;go_wp2_with (go_at_call 169;refine(add32_any _ _ _ _ (by omega) (by omega) (by omega) (by omega) (by omega) (by omega)).mono ?_;rintro e w' ⟨⟨s,qq,rfl,hs',hqq,hsum⟩,rfl⟩;have HS:=ZH hsum;clear hsum);go_roundw
   case rel=>exact⟨k+1,ws.set (j+k) s,qq,by omega,by go_num,rfl,HL.out.step hjk hs' hqq (by rw[HD1.out,HO.out];have:=HS.out;omega),hrow.set _ _ rfl,gb_set hg _ _⟩
   case measure=>simp[intOf];omega
  ·have hkl:k=vs.length:=by omega
   subst hkl;clear hc2 hk hlt;go_wp2;go_end0;exact⟨⟨rfl,ws.set (j+vs.length) ((ui+cr)%4294967296),HL.out.last (c':=(ui+cr)/4294967296) rfl hjk (by omega) (by omega) (by rw[HO.out];omega),hrow.set _ _ (by omega)⟩,gb_set hg _ _⟩
theorem of_val (u:Nat):val [u%4294967296,u/4294967296]=u:=by simp[val];omega
theorem row_two (w:World)(a b:Nat):Row (w.alloc (.cells #[.int .u32 (a:Int),.int .u32 (b:Int)] 152)) w.heap.size [a,b]:=heap_alloc_new w _
theorem of_any (u:Nat)(w:World)(hu:u<18446744073709551616):Calls Tryz.prog 103 #[.int .u64 u] w fun e w'=>RetS w w' e (dig u):=by
 have hlo:(((u%4294967296:Nat)):Int)=(u:Int)%4294967296:=by omega
 have hhi:(((u/4294967296:Nat)):Int)=(u:Int)/4294967296:=by omega
 have hR:=row_two w (u%4294967296) (u/4294967296);rw[hlo,hhi]at hR;have ho:Ok [u%4294967296,u/4294967296]:=Ok.cons (by omega) (Ok.cons (by omega) Ok.nil);have hrd:=hR.rd ho (by simp);have HV:=ZH (of_val u);have hbel:Below w.heap.size w (w.alloc (.cells #[.int .u32 ((u:Int)%4294967296),.int .u32 ((u:Int)/4294967296)] 152)):=(Below.refl _ _).alloc ZL _;have hC:∀w',Rd w' (some ⟨w.heap.size,0,none⟩) 2 [u%4294967296,u/4294967296]→Calls Tryz.prog 155 #[.slice (some ⟨w.heap.size,0,none⟩) 2 2] w' fun e w2=>RetS w' w2 e (dig u):=by
  intro w' hr;have:=((trim_any _ _ _ w' hr (by simp)).mono (fun e w2 ⟨h1,h2⟩=>by obtain⟨h3,h4⟩:=trim_use h1 hr;subst h2;rw[HV.out]at h3 h4;exact⟨⟨_,_,h3,h4⟩,Below.refl _ _⟩):Calls Tryz.prog 155 #[.slice (some ⟨w.heap.size,0,none⟩) 2 2] w' fun e w2=>RetS w' w2 e (dig u));exact this
 have HC:=ZH hC;have HH:=ZH (And.intro hlo hhi);have HRD:=ZH hrd;clear hlo hhi hR ho hC hrd;go_enter Tryz.func103,Tryz.ntmps103;go_wp2_with (go_at_call 155;refine(HC.out _ HRD.out).mono ?_;rintro e w' ⟨⟨A1,c1,rfl,h2⟩,h3⟩);go_ret;exact⟨⟨A1,c1,rfl,h2⟩,hbel.trans (h3.mono hbel.size)⟩
def RetSU (w w':World)(e:Ending)(ys:List Nat)(k:IntKind)(r:Nat):Prop:=(∃A c,e= .returned (.tuple #[.slice A ys.length c,.int k r])∧Rd w' A c ys∧∀a,A=some a→w.heap.size≤a.block)∧Below w.heap.size w w'
theorem small_any (A:Option Addr)(c:Nat)(xs:List Nat)(b:Nat)(w:World)(ha:Rd w A c xs)(hs:xs.length≤100000)(hb0:0<b)(hb:b<4294967296):Calls Tryz.prog 196 #[.slice A xs.length c,.int .u32 b] w fun e w'=>RetSU w w' e (dig (val xs/b)) .u32 (val xs%b):=by
 go_enter Tryz.func196,Tryz.ntmps196;go_wp2_with (at_make;refine wp_makeN _ _ _ xs.length (by omega) (by omega) (by omega) rfl rfl rfl rfl ?_;intro w1 hrow1 hbel1);go_loopw [7,8] (fun lv i wr=>∃(k:Nat)(os:List Nat)(r:Nat),k≤xs.length∧i= .int .i64 ((k:Int)-1)∧lv= .int .u32 r∧SmallTo xs b k os r∧Row wr w.heap.size os∧Below w.heap.size w wr) (fun _ i _=>(intOf i+1).toNat)
 case atStart=>exact⟨xs.length,_,0,by omega,rfl,rfl,SmallTo.zero xs b hb0,hrow1,hbel1⟩
 case round=>
  obtain⟨k,os,r,hk,rfl,rfl,hst,hrow,hbel⟩:=hrel;clear hrow1 hbel1;have hol:=hst.2.1;have HOL:=ZH hol;have hrb:=hst.2.2.1;have HS:=ZH hst;clear hst hol;cases k with
  |succ k=>
   have hlt:k<xs.length:=hk;obtain⟨b1,o1,rfl,hb1,hc1⟩:=ha.at_ (by rintro rfl;simp at hlt);have g1:wr.cell? ⟨b1,o1+k,none⟩=some (.int .u32 (xs[k]'hlt)):=(hbel.cell (p:=⟨b1,o1+k,none⟩) hb1).trans (hc1 k hlt);have hd1:=ha.ok.get hlt;clear hc1;have hik:k<os.length:=by rw[HOL.out];exact hlt
   have g3:=hrow.cell hik;have g4:=hrow.frozen k;have HX:Hid (∀q r',q<4294967296→r'<b→q*b+r'=r*4294967296+xs[k]→SmallTo xs b k (os.set k q) r'):=fun q r' h1 h2 h3=>HS.out.step hlt h1 h2 h3;generalize hxi:xs[k]=di at*;clear hxi;obtain⟨N,hN⟩:∃N:Nat,N=r*4294967296+di:=⟨_,rfl⟩;have hNi:(r:Int)*4294967296+(di:Int)=(N:Int):=by omega
   have hq:N/b<4294967296:=by
    rw[Nat.div_lt_iff_lt_mul hb0];have:(r+1)*4294967296≤b*4294967296:=Nat.mul_le_mul_right _ hrb;omega
   have hrr:N%b<b:=Nat.mod_lt _ hb0;have he:N/b*b+N%b=r*4294967296+di:=by rw[←hN,Nat.mul_comm];exact Nat.div_add_mod _ _
   have HF:=ZH (HX.out _ _ hq hrr he);have HD:Hid (((r:Int)*4294967296+(di:Int))/(b:Int)=((N/b:Nat):Int)∧((r:Int)*4294967296+(di:Int))%(b:Int)=((N%b:Nat):Int)):=by
    unfold Hid;rw[hNi];exact⟨(Int.natCast_ediv _ _).symm,(Int.natCast_emod _ _).symm⟩
   clear he hN hNi HX;generalize N/b=q at*;generalize N%b=r' at*;go_wp2_with (go_at_call 209;refine(div32_any _ _ _ _ (by omega) (by omega) (by omega) (by omega) (by omega) (by omega)).mono ?_;rintro e w' ⟨rfl,n0,rfl⟩;rw[HD.out.1,HD.out.2]);go_roundw
   case rel=>exact⟨k,_,r',by omega,by go_num,rfl,HF.out,(hrow.drewN n0).set _ _ rfl,(hbel.trans ((Read.refl wr).drewN n0|>.below _)).setCell ZL _⟩
   case measure=>simp[intOf]
  |zero=>
   have hro:=hrow.rd HS.out.1 (by rw[HOL.out];omega);rw[HOL.out]at hro;have hC:∀w',Rd w' (some ⟨w.heap.size,0,none⟩) xs.length os→Calls Tryz.prog 155 #[.slice (some ⟨w.heap.size,0,none⟩) xs.length xs.length] w' fun(e:Ending) w2=>(e= .returned (.slice (some ⟨w.heap.size,0,none⟩) (dig (val os)).length xs.length)∧Rd w' (some ⟨w.heap.size,0,none⟩) xs.length (dig (val os)))∧w'=w2:=by
    intro w' hr;have:=(trim_any _ _ _ w' hr (by rw[HOL.out];omega)).mono (fun e w2 ⟨h1,h2⟩=>(⟨trim_use h1 hr,h2⟩:(e=Ending.returned (.slice (some ⟨w.heap.size,0,none⟩) (dig (val os)).length xs.length)∧Rd w' (some ⟨w.heap.size,0,none⟩) xs.length (dig (val os)))∧w'=w2));rw[HOL.out]at this;exact this
   have HC:=ZH hC;clear hC;go_wp2_with (go_at_call 155;refine(HC.out _ hro).mono ?_;rintro e w' ⟨⟨rfl,h2⟩,rfl⟩);go_ret2;obtain⟨hv1,hv2⟩:=HS.out.done;rw[hv1]at h2⊢;refine⟨⟨_,_,?_,h2,fun a h=>by injection h with h;subst h;exact Nat.le_refl _⟩,hbel⟩;rw[hv2];rfl
theorem add_lit' (b o j:Nat):(⟨b,o,none⟩:Addr).add j=⟨b,o+j,none⟩:=by
 unfold Addr.add;split<;>simp_all
def divR (xs ys:List Nat):List Nat×List Nat×Int:=if rightB xs&&rightB ys&&decide (ys≠[]) then(dig (val xs/val ys),dig (val xs%val ys),0) else([],[],2)
theorem divR_eq {xs ys:List Nat}(h1:rightB xs=true)(h2:rightB ys=true)(h:ys≠[]):divR xs ys=(dig (val xs/val ys),dig (val xs%val ys),0):=by simp[divR,h1,h2,h]
theorem divR_no {xs ys:List Nat}(h:(rightB xs&&rightB ys&&decide (ys≠[]))=false):divR xs ys=([],[],2):=by unfold divR;rw[h];rfl
def RetSSE (w w':World)(e:Ending)(r:List Nat×List Nat×Int):Prop:=
 (∃A c B d,e= .returned (.tuple #[.slice A r.1.length c,.slice B r.2.1.length d,.int .i64 r.2.2])∧Rd w' A c r.1∧Rd w' B d r.2.1)∧Below w.heap.size w w'
theorem len_zero_b {ys:List Nat}(h:ys≠[]):((ys.length:Int)==0)=false:=by
 have:=List.length_pos_iff.2 h;simp;omega
end Go.Proofs.YtecfcjdgmpopjaaGreat

import Derived.Test.YtecfcjdgmpopjaaGreatNatB
import Derived.Laws.BitsAllLaws
import Derived.Laws.MathBits
set_option maxRecDepth 100000
namespace Go.Proofs.YtecfcjdgmpopjaaGreat
open Go.RowKit Num
theorem or_join (x y:Int)(hx:0≤x)(hx':x<4294967296)(hy:0≤y)(hy':y<4294967296):bits .or .u64 (x*4294967296) y=x*4294967296+y:=by
 rw[u64_or _ _ (by omega) (by omega) hy (by omega)];obtain⟨a,rfl⟩:=Int.eq_ofNat_of_zero_le hx;obtain⟨b,rfl⟩:=Int.eq_ofNat_of_zero_le hy;have e:((a:Int)*4294967296).toNat=a*4294967296:=by omega
 rw[e,Int.toNat_natCast,nat_join 32 (a*4294967296) b (by omega) (by omega)];omega
theorem top32 (n:Nat)(h:n<4294967296):n/2147483648=(n.testBit 31).toNat:=by
 rw[Nat.testBit_eq_decide_div_mod_eq];by_cases h1:n/2^31%2=1
 ·simp[h1];omega
 ·simp[h1];omega
theorem bit31 (n:Nat)(h:n<4294967296):n.testBit 31=decide (2147483648≤n):=by
 rw[Nat.testBit_eq_decide_div_mod_eq];congr 1;apply propext;omega
theorem not32 (n:Nat)(_h:n<4294967296):(4294967295 ^^^ n:Nat).testBit 31= !n.testBit 31:=by
 rw[Nat.testBit_xor];have:Nat.testBit 4294967295 31=true:=by decide
 rw[this];simp
theorem sub_borrow (x y c:Nat)(hx:x<4294967296)(hy:y<4294967296)(hc:c≤1)(d:Nat)(hd:d=(x+8589934592-y-c)%4294967296):(((4294967295 ^^^ x)&&& y)|||((4294967295 ^^^ (x ^^^ y))&&& d))/2147483648=if x<y+c then 1 else 0:=by
 have hd':d<4294967296:=by omega
 have hxy:x ^^^ y<4294967296:=Nat.xor_lt_two_pow (n:=32) hx hy;have h1:(4294967295 ^^^ x)&&& y<4294967296:=Nat.and_lt_two_pow (n:=32) _ hy;have h2:(4294967295 ^^^ (x ^^^ y))&&& d<4294967296:=Nat.and_lt_two_pow (n:=32) _ hd';rw[top32 _ (Nat.or_lt_two_pow (n:=32) h1 h2),Nat.testBit_or,Nat.testBit_and,Nat.testBit_and,not32 _ hx,not32 _ hxy,Nat.testBit_xor,bit31 x hx,bit31 y hy,bit31 d hd'];by_cases a:2147483648≤x<;>by_cases b:2147483648≤y<;>by_cases e:2147483648≤d<;>simp[a,b,e]<;>omega
theorem sub_borrow_int (x y c:Int)(hx:0≤x)(hx':x<4294967296)(hy:0≤y)(hy':y<4294967296)(hc:0≤c)(hc':c≤1):bits .or .u32 (bits .and .u32 (bits .xor .u32 IntKind.u32.max x) y) (bits .and .u32 (bits .xor .u32 IntKind.u32.max (bits .xor .u32 x y)) ((x-y-c)%4294967296))/2147483648=if x<y+c then 1 else 0:=by
 have hm:IntKind.u32.max=4294967295:=by decide
 obtain⟨x,rfl⟩:=Int.eq_ofNat_of_zero_le hx;obtain⟨y,rfl⟩:=Int.eq_ofNat_of_zero_le hy;obtain⟨c,rfl⟩:=Int.eq_ofNat_of_zero_le hc;have ed:((x:Int)-y-c)%4294967296=(((x+8589934592-y-c)%4294967296:Nat):Int):=by omega
 have hd':(x+8589934592-y-c)%4294967296<4294967296:=Nat.mod_lt _ (by decide);have hx2:x<2^32:=by omega
 have hy2:y<2^32:=by omega
 have hxy:x ^^^ y<4294967296:=Nat.xor_lt_two_pow (n:=32) hx2 hy2;have h3:4294967295 ^^^ x<4294967296:=Nat.xor_lt_two_pow (n:=32) (by decide) hx2;have h4:4294967295 ^^^ (x ^^^ y)<4294967296:=Nat.xor_lt_two_pow (n:=32) (by decide) hxy;have h1:(4294967295 ^^^ x)&&& y<4294967296:=Nat.and_lt_two_pow (n:=32) _ hy2;have h2:(4294967295 ^^^ (x ^^^ y))&&& ((x+8589934592-y-c)%4294967296)<4294967296:=Nat.and_lt_two_pow (n:=32) _ hd';have em:(4294967295:Int)=((4294967295:Nat):Int):=rfl;rw[hm,ed,em,u32_xor_nat 4294967295 x (by decide) (by omega),u32_xor_nat x y (by omega) (by omega),u32_xor_nat 4294967295 _ (by decide) hxy,u32_and_nat _ _ h3 (by omega),
  u32_and_nat _ _ h4 hd',u32_or_nat _ _ h1 h2]
 have:=sub_borrow x y c (by omega) (by omega) (by omega) _ rfl;have e2:(((((4294967295 ^^^ x)&&& y)|||((4294967295 ^^^ (x ^^^ y))&&& ((x+8589934592-y-c)%4294967296)))/2147483648:Nat):Int)=((if x<y+c then 1 else 0:Nat):Int):=by rw[this]
 rw[Int.natCast_ediv]at e2;refine e2.trans ?_;split<;>split<;>omega
theorem add32_any (x y c:Int)(w:World)(hx:0≤x)(hx':x<4294967296)(hy:0≤y)(hy':y<4294967296)(hc:0≤c)(hc':c≤1):Calls Tryz.prog 169 #[.int .u32 x,.int .u32 y,.int .u32 c] w fun e w'=>(∃s q:Nat,e= .returned (.tuple #[.int .u32 s,.int .u32 q])∧s<4294967296∧q≤1∧(s:Int)+4294967296*q=x+y+c)∧w=w':=by
 go_enter Tryz.func169,Tryz.ntmps169;go_wp2;go_ret2;refine⟨⟨((x+y+c)%4294967296).toNat,((x+y+c)/4294967296).toNat,?_,by omega,by omega,by omega⟩,rfl⟩;rw[Int.toNat_of_nonneg (by omega),Int.toNat_of_nonneg (by omega)];rfl
theorem sub32_any (x y c:Int)(w:World)(hx:0≤x)(hx':x<4294967296)(hy:0≤y)(hy':y<4294967296)(hc:0≤c)(hc':c≤1):Calls Tryz.prog 172 #[.int .u32 x,.int .u32 y,.int .u32 c] w fun e w'=>(∃s q:Nat,e= .returned (.tuple #[.int .u32 s,.int .u32 q])∧s<4294967296∧q≤1∧(s:Int)-4294967296*q=x-y-c)∧w=w':=by
 have hb:=ZH (sub_borrow_int x y c hx hx' hy hy' hc hc');go_enter Tryz.func172,Tryz.ntmps172;go_wp2;go_ret2;refine⟨⟨((x-y-c)%4294967296).toNat,(if x<y+c then 1 else 0:Int).toNat,?_,by omega,by split<;>simp,?_⟩,rfl⟩
 ·rw[hb.out,Int.toNat_of_nonneg (by omega),Int.toNat_of_nonneg (by split<;>decide)];rfl
 ·split<;>simp<;>omega
theorem div32_any (x y c:Int)(w:World)(hx:0≤x)(hx':x<c)(hy:0≤y)(hy':y<4294967296)(hc:0<c)(hc':c<4294967296):Calls Tryz.prog 209 #[.int .u32 x,.int .u32 y,.int .u32 c] w fun e w'=>(e= .returned (.tuple #[.int .u32 ((x*4294967296+y)/c),.int .u32 ((x*4294967296+y)%c)]))∧Read w w':=by
 have e1:(c !=0)=true:=by simp;omega
 have HJ:=ZH (or_join x y hx (by omega) hy hy');have hq:(x*4294967296+y)/c<4294967296:=by
  apply Int.ediv_lt_of_lt_mul hc;have:(x+1)*4294967296≤c*4294967296:=by omega
  omega
 have hq0:0≤(x*4294967296+y)/c:=Int.ediv_nonneg (by omega) (by omega);have hr0:0≤(x*4294967296+y)%c:=Int.emod_nonneg _ (by omega);have hr:(x*4294967296+y)%c<c:=Int.emod_lt_of_pos _ hc;have HB:Hid ((x*4294967296+y)/c<4294967296∧0≤(x*4294967296+y)/c∧0≤(x*4294967296+y)%c∧(x*4294967296+y)%c<c):=⟨hq,hq0,hr0,hr⟩;clear hq hq0 hr0 hr;go_enter Tryz.func209,Tryz.ntmps209;go_wp2;go_quiet (fail);go_wp2;go_ret2;refine⟨?_,(by first|exact Read.refl _|exact⟨_,rfl⟩|exact Read.drewN ⟨_,rfl⟩ _|exact Read.drewN (Read.drewN ⟨_,rfl⟩ _) _|exact Read.drewN (Read.refl _) _)⟩;obtain⟨b1,b2,b3,b4⟩:=HB.out;have e2:0≤x*4294967296+y:=by omega
 rw[HJ.out,Int.tdiv_eq_ediv_of_nonneg e2,Int.tmod_eq_emod_of_nonneg e2,IntWalk.u64_in _ (by omega),Int.emod_eq_of_lt b2 b1,Int.emod_eq_of_lt b3 (by omega)];rfl
theorem bitLen_le (n k:Nat)(h:n<2^k):bitLen n≤k:=by
 by_cases h0:n=0
 ·subst h0;simp[bitLen]
 ·have h1:=(bitLen_spec n).2 h0;have h2:2^(bitLen n-1)<2^k:=Nat.lt_of_le_of_lt h1 h;have h3:=(Nat.pow_lt_pow_iff_right (a:=2) (by decide)).1 h2;omega
theorem len_fin (x b:Int)(k:Nat)(_hx:0≤x)(hb:b=k)(hk:k≤32)(f0:bitLen x.toNat≤32)(h:x.toNat/2^k≠0)(y:Nat)(hy:y=x.toNat/2^k):wrap64 (b+wrap64 (bitLen y))=(bitLen x.toNat:Int):=by
 subst hb hy;have e2:=bitLen_shift x.toNat k h;have e3:wrap64 (bitLen (x.toNat/2^k):Int)=(bitLen (x.toNat/2^k):Int):=IntWalk.wrap64_in _ ⟨by omega,by omega⟩;rw[e3,IntWalk.wrap64_in _ ⟨by omega,by omega⟩];omega
theorem len32_int (x:Int)(w:World)(hx:0≤x)(hx':x<4294967296):Calls Tryz.prog 217 #[.int .u32 x] w fun e w'=>e= .returned (.int .i64 (bitLen x.toNat))∧w=w':=by
 have F0:Hid (bitLen x.toNat≤32):=bitLen_le x.toNat 32 (by omega);go_enter Tryz.func217,Tryz.ntmps217;go_wp2;all_goals
  go_ret;refine⟨ret_int ?_,rfl⟩;rw[len8tab_get]
 ·exact len_fin x 24 24 hx rfl (by decide) F0.out (by omega) _ (by omega)
 ·exact len_fin x 16 16 hx rfl (by decide) F0.out (by omega) _ (by omega)
 ·exact len_fin x 8 8 hx rfl (by decide) F0.out (by omega) _ (by omega)
 ·have:=F0.out;have e3:wrap64 (bitLen x.toNat:Int)=(bitLen x.toNat:Int):=IntWalk.wrap64_in _ ⟨by omega,by omega⟩;rw[e3,e3]
theorem len32_any (x:Nat)(w:World)(hx':x<4294967296):Calls Tryz.prog 217 #[.int .u32 x] w fun e w'=>e= .returned (.int .i64 (bitLen x))∧w=w':=
 (len32_int x w (by omega) (by omega)).mono fun e w' ⟨h,hw⟩=>⟨by simpa using h,hw⟩
theorem lz32_any (x:Nat)(w:World)(hx':x<4294967296):Calls Tryz.prog 210 #[.int .u32 x] w fun e w'=>e= .returned (.int .i64 (32-bitLen x:Nat))∧w=w':=by
 have f0:bitLen x≤32:=bitLen_le x 32 (by omega);go_enter Tryz.func210,Tryz.ntmps210;go_wp2_with (go_at_call 217;refine(len32_any x _ hx').mono ?_;rintro e w' ⟨rfl,rfl⟩);go_ret;exact⟨ret_int (by omega),rfl⟩
end Go.Proofs.YtecfcjdgmpopjaaGreat

import Derived.Test.YtecfcjdgmpopjaaGreatLawC
import Derived.OpenShut
set_option maxHeartbeats 1000000
set_option maxRecDepth 100000
namespace Go.Proofs.YtecfcjdgmpopjaaGreat
open Go.RowKit Num
def uintR (xs:List Nat):Nat×Int:=if rightB xs then(if xs.length≤2 then(val xs,0) else(0,4)) else(0,2)
def RetUE (e:Ending)(r:Nat×Int):Prop:=e= .returned (.tuple #[.int .u64 r.1,.int .i64 r.2])
theorem or_high (x y:Int)(hx:0≤x)(hx':x<4294967296)(hy:0≤y)(hy':y<4294967296):bits .or .u64 y (x*4294967296)=y+x*4294967296:=by
 rw[u64_or _ _ hy (by omega) (by omega) (by omega)];have h:=or_join x y hx hx' hy hy';rw[u64_or _ _ (by omega) (by omega) hy (by omega)]at h;rw[Nat.or_comm,h];omega
theorem or_zero (x:Int)(hx:0≤x)(hx':x<4294967296):bits .or .u64 0 x=x:=by
 rw[u64_or _ _ (by decide) (by decide) hx (by omega)];simp;omega
theorem uint_any (A:Option Addr)(c:Nat)(xs:List Nat)(w:World)(ha:Rd w A c xs)(hs:xs.length≤1000000):Calls Tryz.prog 173 #[.slice A xs.length c] w fun e w'=>RetUE e (uintR xs)∧Read w w':=by
 by_cases h1:rightB xs=true
 case neg=>
  have h1':rightB xs=false:=by simpa using h1
  have HE:Hid (uintR xs=(0,2)):=by unfold Hid uintR;rw[h1'];rfl
  clear h1;go_enter Tryz.func173,Tryz.ntmps173;go_wp2_with fail;refine(right_any A c xs w ha).mono ?_;rintro e w2 ⟨rfl,rfl⟩;rw[h1'];go_wp2;go_ret2;rw[HE.out];exact⟨rfl,Read.refl _⟩
 by_cases h2:xs.length≤2
 case neg=>
  have HE:Hid (uintR xs=(0,4)):=by unfold Hid uintR;rw[if_pos h1,if_neg h2]
  go_enter Tryz.func173,Tryz.ntmps173;go_wp2_with fail;refine(right_any A c xs w ha).mono ?_;rintro e w2 ⟨rfl,rfl⟩;rw[h1];go_wp2;go_ret2;rw[HE.out];exact⟨rfl,Read.refl _⟩
 have HE:Hid (uintR xs=(val xs,0)):=by unfold Hid uintR;rw[if_pos h1,if_pos h2]
 go_enter Tryz.func173,Tryz.ntmps173;go_wp2_with fail;refine(right_any A c xs w ha).mono ?_;rintro e w2 ⟨rfl,rfl⟩;rw[h1];go_wp2;go_loop [4,17] (fun uv iv=>∃k u:Nat,k≤xs.length∧iv= .int .i64 k∧uv= .int .u64 u∧Hid (u=val (xs.take k))∧(k≤1→u<4294967296)∧(k=0→u=0)) (fun _ iv=>xs.length-(intOf iv).toNat)
 case atStart=>exact⟨0,0,by omega,rfl,rfl,rfl,fun _=>by decide,fun _=>rfl⟩
 case round=>
  obtain⟨k,u,hk,rfl,rfl,HU,hu1,hu0⟩:=hrel;by_cases hlt:k<xs.length
  ·obtain⟨b1,o1,rfl,hb1,hc1⟩:=ha.at_ (by rintro rfl;simp at hlt);have g1:=hc1 k hlt;have hd1:=ha.ok.get hlt;have hv:=val_take_succ xs k hlt;clear hc1;generalize xs[k]=di at*;have hw1:=hu1 (by omega);rcases(by omega:k=0∨k=1) with rfl|rfl
   ·have hz:=hu0 rfl;subst hz;have ho:=or_zero (di:Int) (by omega) (by omega);have HV:Hid (di=val (xs.take 1)):=by
     unfold Hid;rw[hv,List.take_zero];simp[val]
    rw[Nat.add_zero]at g1;clear hv hu1 hu0 hw1;go_wp2;go_round
    case rel=>exact⟨1,di,by omega,rfl,by first|rfl|go_num|(rw[ho]),HV,fun _=>hd1,fun h=>by omega⟩
    case measure=>simp[intOf];omega
   ·have ho:=or_high (di:Int) (u:Int) (by omega) (by omega) (by omega) (by omega);have HV:Hid (u+di*4294967296=val (xs.take 2)):=by
     unfold Hid;rw[hv,←HU.out,Nat.pow_one,Nat.mul_comm]
    clear hv hu1 hu0;go_wp2;go_round
    case rel=>exact⟨2,u+di*4294967296,by omega,rfl,by first|rfl|go_num|(rw[ho];go_num),HV,fun h=>by omega,fun h=>by omega⟩
    case measure=>simp[intOf];omega
  ·have hkl:k=xs.length:=by omega
   subst hkl;have HV:Hid (u=val xs):=by have:=HU.out;rwa[List.take_length]at this
   go_wp2;go_ret2;rw[HE.out,←HV.out];exact⟨rfl,Read.refl _⟩
end Go.Proofs.YtecfcjdgmpopjaaGreat

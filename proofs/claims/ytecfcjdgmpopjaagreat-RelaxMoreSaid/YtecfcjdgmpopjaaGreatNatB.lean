/-
  Joined texts: NatA, NatB.
-/
import Derived.Test.YtecfcjdgmpopjaaGreatBase
import Derived.Deep.QuietTactic
import Derived.BigQuiet
set_option maxRecDepth 100000
namespace Go.Proofs.YtecfcjdgmpopjaaGreat
open Go.RowKit Num
instance (ds:List Nat):Decidable (Fine ds):=by unfold Fine;infer_instance
def rightB (xs:List Nat):Bool:=decide (xs.length≤256∧Fine xs)
theorem rightB_nil:rightB []=true:=by simp[rightB,Fine]
theorem rightB_last {xs:List Nat}(hl:0<xs.length)(hm:xs.length≤256){d:Nat}(hx:xs[xs.length-1]=d):rightB xs=((d:Int) !=0):=by
 have h1:xs.getLast? =some d:=by
  rw[List.getLast?_eq_getElem?,gG (by omega),hx]
 by_cases hd:d=0<;>simp[rightB,Fine,h1,hm,hd]
theorem rightB_big {xs:List Nat}(hm:¬xs.length≤256):rightB xs=false:=by simp[rightB,hm]
theorem ret_bool {a b:Bool}(h:a=b):Ending.returned (.bool a)= .returned (.bool b):=by rw[h]
theorem ret_int {k:IntKind}{a b:Int}(h:a=b):Ending.returned (.int k a)= .returned (.int k b):=by rw[h]
theorem right_any (A:Option Addr)(c:Nat)(xs:List Nat)(w:World)(h:Rd w A c xs):Calls Tryz.prog 168 #[.slice A xs.length c] w fun e w'=>e= .returned (.bool (rightB xs))∧w=w':=by
 by_cases hn:xs=[]
 ·subst hn;go_enter Tryz.func168,Tryz.ntmps168;go_wp2;go_ret;exact⟨ret_bool rightB_nil.symm,rfl⟩
 ·obtain⟨b,o,rfl,hb,hc⟩:=h.at_ hn;have hl:0<xs.length:=List.length_pos_iff.2 hn;by_cases hm:xs.length≤256
  ·have h1:=hc (xs.length-1) (by omega);have e1:((xs.length:Int)==0)=false:=by simp;omega
   clear hc;generalize hx:xs[xs.length-1]=d at*;have Hx:=ZH hx;clear hx;go_enter Tryz.func168,Tryz.ntmps168;go_wp2;go_ret;exact⟨ret_bool (rightB_last hl hm Hx.out).symm,rfl⟩
  ·go_enter Tryz.func168,Tryz.ntmps168;go_wp2;go_ret;exact⟨ret_bool (rightB_big hm).symm,rfl⟩
def lenOf:Value→Nat| .slice _ n _=>n|_=>0
theorem fine_take {xs:List Nat}{k:Nat}(hk:k<xs.length)(h:¬xs[k]=0):Fine (xs.take (k+1)):=by
 rw[List.take_succ_eq_append_getElem hk];unfold Fine;rw[List.getLast?_concat];simp[h]
theorem val_take_zero {xs:List Nat}{k:Nat}(hk:k<xs.length)(h:xs[k]=0)(hv:val (xs.take (k+1))=val xs):val (xs.take k)=val xs:=by
 rw[val_take_succ xs k hk,h]at hv;simpa using hv
theorem trim_end {xs:List Nat}{k:Nat}(ho:Ok xs)(hv:val (xs.take k)=val xs)(hf:Fine (xs.take k)):dig (val xs)=xs.take k:=by
 rw[←hv,dig_val (ho.take k) hf]
def TrimEnd (A:Option Addr)(c:Nat)(xs:List Nat)(e:Ending):Prop:=∃k:Nat,k≤xs.length∧e= .returned (.slice A k c)∧dig (val xs)=xs.take k
theorem trim_any (A:Option Addr)(c:Nat)(xs:List Nat)(w:World)(h:Rd w A c xs)(hs:xs.length≤1000000):Calls Tryz.prog 155 #[.slice A xs.length c] w fun e w'=>TrimEnd A c xs e∧w=w':=by
 go_enter Tryz.func155,Tryz.ntmps155;go_wp2;go_loop [0] (fun a=>∃k:Nat,k≤xs.length∧a= .slice A k c∧val (xs.take k)=val xs) (fun a=>lenOf a)
 case atStart=>exact⟨xs.length,Nat.le_refl _,rfl,by rw[List.take_length]⟩
 case round=>
  obtain⟨k,hk,rfl,hv⟩:=hrel;have Hv:=ZH hv;clear hv;cases k with
  |zero=>
   go_wp2;go_ret;exact⟨⟨0,Nat.zero_le _,rfl,trim_end h.ok Hv.out (by simp[Fine])⟩,rfl⟩
  |succ k=>
   have hx:xs≠[]:=by rintro rfl;simp at hk
   obtain⟨b,o,rfl,hb,hc⟩:=h.at_ hx;have h1:=hc k (by omega);have hr:=h.room;clear hc;by_cases hz:xs[k]=0
   ·have Hz:=ZH hz;rw[hz]at h1;clear hz;go_wp2;go_round
    case rel=>exact⟨k,by omega,by simp,val_take_zero (by omega) Hz.out Hv.out⟩
    case measure=>simp[lenOf]
   ·have Hz:=ZH hz;have hz':((xs[k]:Int)==0)=false:=by simpa using hz
    clear hz;go_wp2;go_ret;exact⟨⟨k+1,by omega,rfl,trim_end h.ok Hv.out (fine_take (by omega) Hz.out)⟩,rfl⟩
theorem trim_use {w:World}{A:Option Addr}{c:Nat}{xs:List Nat}{e:Ending}(h:TrimEnd A c xs e)(hr:Rd w A c xs):e= .returned (.slice A (dig (val xs)).length c)∧Rd w A c (dig (val xs)):=by
 obtain⟨k,hk,rfl,hd⟩:=h;rw[hd];refine⟨?_,hr.take k⟩;rw[List.length_take,Nat.min_eq_left hk]
def cmpN (m n:Nat):Int:=if m<n then-1 else if n<m then 1 else 0
theorem cmp_len {m n:Nat}(h:(dig m).length<(dig n).length):m<n:=by
 have:=val_lt_of_length (dig_ok m) (dig_ok n) (fine_dig n) h;rwa[val_dig,val_dig]at this
theorem cmp_top {m n k:Nat}(hl:(dig m).length=(dig n).length)(hk:k<(dig m).length)(hk':k<(dig n).length)(hd:(dig m).drop (k+1)=(dig n).drop (k+1))(hlt:(dig m)[k]<(dig n)[k]):m<n:=by
 have:=val_cmp_top k (dig_ok m) hl hk hd hlt;rwa[val_dig,val_dig]at this
theorem cmpN_lt {m n:Nat}(h:m<n):cmpN m n= -1:=by simp[cmpN,h]
theorem cmpN_gt {m n:Nat}(h:n<m):cmpN m n=1:=by unfold cmpN;rw[if_neg (by omega),if_pos h]
theorem cmpN_eq {m n:Nat}(h:m=n):cmpN m n=0:=by subst h;simp[cmpN]
theorem drop_step {xs ys:List Nat}{k:Nat}(hx:k<xs.length)(hy:k<ys.length)(h:xs.drop (k+1)=ys.drop (k+1))(hz:xs[k]=ys[k]):xs.drop k=ys.drop k:=by
 rw[List.drop_eq_getElem_cons hx,List.drop_eq_getElem_cons hy,h,hz]
theorem order_any (A B:Option Addr)(c d m n:Nat)(w:World)(ha:Rd w A c (dig m))(hb:Rd w B d (dig n))(hs:(dig m).length≤1000000)(ht:(dig n).length≤1000000):Calls Tryz.prog 171 #[.slice A (dig m).length c,.slice B (dig n).length d] w fun e w'=>e= .returned (.int .i64 (cmpN m n))∧Read w w':=by
 by_cases hl:(dig m).length=(dig n).length
 ·have e1:(((dig m).length:Int) !=((dig n).length:Int))=false:=by simp[hl]
  have Hl:=ZH hl;rw[hl]at e1⊢;clear hl;go_enter Tryz.func171,Tryz.ntmps171;go_wp2;go_loopw [5] (fun i wr=>∃k:Nat,k≤(dig n).length∧i= .int .i64 ((k:Int)-1)∧(dig m).drop k=(dig n).drop k∧Read w wr) (fun i _=>(intOf i+1).toNat)
  case atStart=>exact⟨(dig n).length,Nat.le_refl _,rfl,by rw[List.drop_length,←Hl.out,List.drop_length],Read.refl w⟩
  case round=>
   obtain⟨k,hk,rfl,heq,q,rfl⟩:=hrel;have Heq:=ZH heq;clear heq;cases k with
   |zero=>
    go_wp2;go_ret;exact⟨ret_int (cmpN_eq (dig_inj (by simpa using Heq.out))).symm,(by first|exact Read.refl _|exact⟨_,rfl⟩|exact Read.drewN ⟨_,rfl⟩ _|exact Read.drewN (Read.drewN ⟨_,rfl⟩ _) _|exact Read.drewN (Read.refl _) _)⟩
   |succ k=>
    have hx:dig m≠[]:=by intro h;have:=Hl.out;rw[h]at this;simp at this;omega
    have hy:dig n≠[]:=by intro h;rw[h]at hk;simp at hk
    obtain⟨b1,o1,rfl,hb1,hc1⟩:=ha.at_ hx;obtain⟨b2,o2,rfl,hb2,hc2⟩:=hb.at_ hy;have hky:k<(dig n).length:=hk;have hkx:k<(dig m).length:=by rw[Hl.out];exact hk
    have h1:=hc1 k hkx;have h2:=hc2 k hky;clear hc1 hc2;rcases Nat.lt_trichotomy ((dig m)[k]) ((dig n)[k]) with hz|hz|hz
    ·go_wp2;go_quiet (fail);go_wp2;go_ret;exact⟨ret_int (cmpN_lt (cmp_top Hl.out hkx hky Heq.out hz)).symm,(by first|exact Read.refl _|exact⟨_,rfl⟩|exact Read.drewN ⟨_,rfl⟩ _|exact Read.drewN (Read.drewN ⟨_,rfl⟩ _) _|exact Read.drewN (Read.refl _) _)⟩
    ·have Hz:=ZH hz;have hz1:¬(dig m)[k]<(dig n)[k]:=by omega
     have hz2:¬(dig n)[k]<(dig m)[k]:=by omega
     clear hz;go_wp2;go_quiet (fail);go_wp2;go_quiet (fail);go_wp2;go_roundw
     case rel=>exact⟨k,by omega,by go_num,drop_step hkx hky Heq.out Hz.out,(by first|exact Read.refl _|exact⟨_,rfl⟩|exact Read.drewN ⟨_,rfl⟩ _|exact Read.drewN (Read.drewN ⟨_,rfl⟩ _) _|exact Read.drewN (Read.refl _) _)⟩
     case measure=>simp[intOf]
    ·have hz1:¬(dig m)[k]<(dig n)[k]:=by omega
     go_wp2;go_quiet (fail);go_wp2;go_quiet (fail);go_wp2;go_ret;exact⟨ret_int (cmpN_gt (cmp_top Hl.out.symm hky hkx Heq.out.symm hz)).symm,(by first|exact Read.refl _|exact⟨_,rfl⟩|exact Read.drewN ⟨_,rfl⟩ _|exact Read.drewN (Read.drewN ⟨_,rfl⟩ _) _|exact Read.drewN (Read.refl _) _)⟩
 ·have e1:(((dig m).length:Int) !=((dig n).length:Int))=true:=by simp;omega
  rcases Nat.lt_or_gt_of_ne hl with hlen|hlen
  ·go_enter Tryz.func171,Tryz.ntmps171;go_wp2;all_goals
    go_ret;exact⟨ret_int (by rw[cmpN_lt (cmp_len hlen)];try omega),Read.refl w⟩
  ·go_enter Tryz.func171,Tryz.ntmps171;go_wp2;all_goals
    go_ret;exact⟨ret_int (by rw[cmpN_gt (cmp_len hlen)];try omega),Read.refl w⟩
end Go.Proofs.YtecfcjdgmpopjaaGreat

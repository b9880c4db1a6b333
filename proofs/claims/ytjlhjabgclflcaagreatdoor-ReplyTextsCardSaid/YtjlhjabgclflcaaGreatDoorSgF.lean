import Derived.Test.YtjlhjabgclflcaaGreatDoorBase
import Derived.Test.YtjlhjabgclflcaaGreatDoorDivP
import Derived.RegionTactic
import Derived.BigRegion
import Derived.Laws.IdiomStrings
import Derived.Maps.AppendAt
import Derived.Deep.QuietTactic
import Derived.BigQuiet
import Derived.Laws.BitsAllLaws
import Derived.Laws.MathBits
import Derived.StillTailTactics
import Derived.Lib.RabinKarpLaws
import Derived.Lib.Strings
import Derived.OpenShut
import Derived.WalkSpells
import Derived.Deep.RegionHeld3
set_option maxHeartbeats 1000000
set_option maxRecDepth 100000
namespace Go.Proofs.YtjlhjabgclflcaaGreatDoor
open Go.RowKit Num
def bv (b:UInt8):Value:= .int .u8 (b.toNat:Int)
def OwnB (w:World) (base:Nat) (v:Value) (bs:List UInt8):Prop:=w.ownsRow base 5 1 v bs.length (bs.map bv)
theorem OwnB.nil (w:World) (base:Nat):OwnB w base (.slice none 0 0) []:=World.ownsRow_nil w base 5 1
theorem OwnB.alloc {w:World} {base:Nat} {v:Value} {xs:List UInt8} (h:OwnB w base v xs) (o:Obj):OwnB (w.alloc o) base v xs:=World.ownsRow.alloc h o
theorem OwnB.drewN {w:World} {base:Nat} {v:Value} {xs:List UInt8} (h:OwnB w base v xs) (n:Nat):OwnB (w.drewN n) base v xs:=h
theorem OwnB.below {w w':World} {base:Nat} {v:Value} {xs:List UInt8} (h:OwnB w base v xs) {B:Nat} (hb:Below B w w') (hB:w.heap.size≤B):OwnB w' base v xs:=by
 obtain ⟨h1,h2⟩:=h;refine ⟨h1,?_⟩;rcases h2 with h2|⟨g,cap,cur,hv,hg,hh,r⟩
 ·exact Or.inl h2
 ·have:g<w.heap.size:=(Array.getElem?_eq_some_iff.1 hh).1;exact Or.inr ⟨g,cap,cur,hv,hg,by rw[hb.block g (by omega)];exact hh,r⟩
theorem OwnB.form {w:World} {base:Nat} {v:Value} {xs:List UInt8} (h:OwnB w base v xs):(v= .slice none 0 0∧xs=[])∨∃g cap,v= .slice (some ⟨g,0,none⟩) xs.length cap∧base≤g∧xs.length≤cap∧cap≤maxLen:=by
 rcases h.2 with ⟨hv,h0⟩|⟨g,cap,cur,hv,hg,_,hc,hm,_⟩
 ·exact .inl ⟨hv,List.eq_nil_of_length_eq_zero h0⟩
 ·exact .inr ⟨g,cap,hv,hg,hc,hm⟩
theorem OwnB.text {w:World} {base:Nat} {v:Value} {xs:List UInt8} (h:OwnB w base v xs) (hne:xs≠[]):(convert 52 9 v).run Tryz.prog w= .ok (.string ⟨xs.toArray⟩) w:=by
 rcases h.form with ⟨_,h0⟩|⟨g,cap,rfl,_,hc,hm⟩
 ·exact absurd h0 hne
 ·refine run_convert_bytes_back w 52 9 5 ⟨g,0,none⟩ cap xs Tryz.underlying52 Tryz.underlying5 Tryz.underlying9 (fun j hj=> ?_);have:=World.ownsRow.cellAt h j (by omega);have e:(⟨g,0,none⟩:Addr).add j=⟨g,j,none⟩:=by unfold Addr.add;split<;>simp_all
  rw[e,this];simp[hj,bv]
theorem OwnB.set {w:World} {base g cap n:Nat} {xs:List UInt8} (h:OwnB w base (.slice (some ⟨g,0,none⟩) n cap) xs) (hn:xs.length=n) (j:Nat) (d:UInt8):OwnB (w.setCell ⟨g,j,none⟩ (.int .u8 (d.toNat:Int))) base (.slice (some ⟨g,0,none⟩) n cap) (xs.set j d)∧w.grownBy (w.setCell ⟨g,j,none⟩ (.int .u8 (d.toNat:Int))) (some g):=by
 subst hn;have:=World.ownsRow.stored h j (bv d);refine ⟨?_,this.2⟩;unfold OwnB;rw[List.length_set,List.map_set];exact this.1
def RdOff (w:World) (A:Option Addr) (c:Nat) (xs:List Nat) (v:Value):Prop:=Rd w A c xs∧(xs≠[]→∀a g,A=some a→v.ownBlock=some g→a.block≠g)
theorem RdOff.fresh {w w1:World} {base:Nat} {A:Option Addr} {c:Nat} {xs:List Nat} {v:Value} {bs:List UInt8} (h:Rd w1 A c xs) (hf:∀a,A=some a→w.heap.size≤a.block) (ho:OwnB w base v bs):RdOff w1 A c xs v:=
 ⟨h,fun _ a g ha hv=>by have:=(World.ownsRow.lt ho g hv).2;have:=hf a ha;omega⟩
theorem RdOff.old {w:World} {A:Option Addr} {c:Nat} {xs:List Nat} (h:Rd w A c xs):RdOff w A c xs (.slice none 0 0):=⟨h,fun _ a g _ hv=>by cases hv⟩
end Go.Proofs.YtjlhjabgclflcaaGreatDoor
namespace Go.Proofs.YtjlhjabgclflcaaGreatDoor
open Go.RowKit Num
instance (ds:List Nat):Decidable (Fine ds):=by unfold Fine;infer_instance
def rightB (xs:List Nat):Bool:=decide (xs.length≤256∧Fine xs)
theorem rightB_nil:rightB []=true:=by simp[rightB,Fine]
theorem rightB_last {xs:List Nat} (hl:0<xs.length) (hm:xs.length≤256) {d:Nat} (hx:xs[xs.length-1]=d):rightB xs=((d:Int) !=0):=by
 have h1:xs.getLast? =some d:=by
  rw[List.getLast?_eq_getElem?,List.getElem?_eq_getElem (by omega),hx]
 by_cases hd:d=0<;>simp[rightB,Fine,h1,hm,hd]
theorem rightB_big {xs:List Nat} (hm:¬xs.length≤256):rightB xs=false:=by simp[rightB,hm]
theorem ret_bool {a b:Bool} (h:a=b):Ending.returned (.bool a)= .returned (.bool b):=by rw[h]
theorem rright_any (A:Option Addr) (c:Nat) (xs:List Nat) (w:World) (h:Rd w A c xs):Calls Tryz.prog 144 #[.slice A xs.length c] w fun e w'=>e= .returned (.bool (rightB xs))∧w=w':=by
 by_cases hn:xs=[]
 ·subst hn;go_enter Tryz.func144,Tryz.ntmps144;go_wp2;go_ret;exact ⟨ret_bool rightB_nil.symm,rfl⟩
 ·obtain ⟨b,o,rfl,hb,hc⟩:=h.at_ hn;have hl:0<xs.length:=List.length_pos_iff.2 hn;by_cases hm:xs.length≤256
  ·have h1:=hc (xs.length-1) (by omega);have e1:((xs.length:Int)==0)=false:=by simp;omega
   clear hc;generalize hx:xs[xs.length-1]=d at*;have Hx:=Lib.hid hx;clear hx;go_enter Tryz.func144,Tryz.ntmps144;go_wp2;go_ret;exact ⟨ret_bool (rightB_last hl hm Hx.out).symm,rfl⟩
  ·go_enter Tryz.func144,Tryz.ntmps144;go_wp2;go_ret;exact ⟨ret_bool (rightB_big hm).symm,rfl⟩
theorem fine_take {xs:List Nat} {k:Nat} (hk:k<xs.length) (h:¬xs[k]=0):Fine (xs.take (k+1)):=by
 rw[List.take_succ_eq_append_getElem hk];unfold Fine;rw[List.getLast?_concat];simp[h]
theorem val_take_zero {xs:List Nat} {k:Nat} (hk:k<xs.length) (h:xs[k]=0) (hv:val (xs.take (k+1))=val xs):val (xs.take k)=val xs:=by
 rw[val_take_succ xs k hk,h]at hv;simpa using hv
theorem trim_end {xs:List Nat} {k:Nat} (ho:Ok xs) (hv:val (xs.take k)=val xs) (hf:Fine (xs.take k)):dig (val xs)=xs.take k:=by
 rw[←hv,dig_val (ho.take k) hf]
theorem cmp_len {m n:Nat} (h:(dig m).length<(dig n).length):m<n:=by
 have:=val_lt_of_length (dig_ok m) (dig_ok n) (fine_dig n) h;rwa[val_dig,val_dig]at this
theorem cmp_top {m n k:Nat} (hl:(dig m).length=(dig n).length) (hk:k<(dig m).length) (hk':k<(dig n).length) (hd:(dig m).drop (k+1)=(dig n).drop (k+1)) (hlt:(dig m)[k]<(dig n)[k]):m<n:=by
 have:=val_cmp_top k (dig_ok m) hl hk hd hlt;rwa[val_dig,val_dig]at this
theorem drop_step {xs ys:List Nat} {k:Nat} (hx:k<xs.length) (hy:k<ys.length) (h:xs.drop (k+1)=ys.drop (k+1)) (hz:xs[k]=ys[k]):xs.drop k=ys.drop k:=by
 rw[List.drop_eq_getElem_cons hx,List.drop_eq_getElem_cons hy,h,hz]
end Go.Proofs.YtjlhjabgclflcaaGreatDoor
namespace Go.Proofs.YtjlhjabgclflcaaGreatDoor
open Go.RowKit Num
theorem map_take_snoc {xs:List Nat} {k:Nat} (h:k<xs.length):xs.take k++[xs[k]]=xs.take (k+1):=(List.take_succ_eq_append_getElem h).symm
theorem rtrim_any (A:Option Addr) (c:Nat) (xs:List Nat) (w:World) (h:Rd w A c xs) (hs:xs.length≤1000000):Calls Tryz.prog 142 #[.slice A xs.length c] w fun e w'=>∃v,e= .returned v∧Own w' w.heap.size v (dig (val xs))∧Below w.heap.size w w':=by
 go_enter Tryz.func142,Tryz.ntmps142;go_wp2;go_loop [3] (fun n=>∃k:Nat,k≤xs.length∧n= .int .i64 k∧val (xs.take k)=val xs) (fun n=>(intOf n).toNat)
 case atStart=>exact ⟨xs.length,Nat.le_refl _,rfl,by rw[List.take_length]⟩
 case round=>
  obtain ⟨k,hk,rfl,hv⟩:=hrel;have Hv:=Lib.hid hv;clear hv;have Hend:∀(f:Fine (xs.take k)),dig (val xs)=xs.take k:=fun f=>trim_end h.ok Hv.out f;have HE:=Lib.hid Hend;clear Hend;by_cases hgo:∃j,k=j+1∧∃hj:j<xs.length,xs[j]=0
  ·obtain ⟨k,rfl,hkx,hz⟩:=hgo;have hx:xs≠[]:=by rintro rfl;simp at hk
   obtain ⟨b,o,rfl,hb,hc⟩:=h.at_ hx;have h1:=hc k (by omega);clear hc;have Hz:=Lib.hid hz;rw[hz]at h1;clear hz;go_wp2;go_round
   case rel=>exact ⟨k,by omega,by go_num,val_take_zero (by omega) Hz.out Hv.out⟩
   case measure=>simp[intOf]
  ·have hf:Fine (xs.take k):=by
    cases k with
    |zero=>simp[Fine]
    |succ k=>exact fine_take hk (fun hz=>hgo ⟨k,rfl,hk,hz⟩)
   have hd:=HE.out hf;have HD:=Lib.hid hd;clear hd HE;have h1:∀j,k=j+1→∃b o,A=some ⟨b,o,none⟩∧b<w.heap.size∧∃d:Nat,w.cell? ⟨b,o+j,none⟩=some (.int .u32 d)∧((d:Int)==0)=false:=by
    rintro j rfl;obtain ⟨b,o,hA,hb,hc⟩:=h.at_ (by rintro rfl;simp at hk);exact ⟨b,o,hA,hb,xs[j],hc j hk,by simp;exact fun hz=>hgo ⟨j,rfl,hk,hz⟩⟩
   have H1:=Lib.hid h1;clear h1 hgo;have hS:∀j (hj:j<k),∃b o,A=some ⟨b,o,none⟩∧b<w.heap.size∧w.cell? ⟨b,o+j,none⟩=some (.int .u32 (xs[j]'(by omega))):=by
    intro j hj;obtain ⟨b,o,hA,hb,hc⟩:=h.at_ (by rintro rfl;simp at hk;omega);exact ⟨b,o,hA,hb,hc j (by omega)⟩
   have HS:=Lib.hid hS;clear hS;rcases Nat.eq_zero_or_pos k with rfl|hkp
   ·go_wp2;refine wp_loop_rounds 1 ?_;rw[rounds_succ];go_wp2;go_ret;refine ⟨_,rfl,?_,Below.refl _ _⟩;rw[HD.out];exact Own.nil _ _
   ·obtain ⟨j,rfl⟩:∃j,k=j+1:=⟨k-1,by omega⟩;obtain ⟨b,o,rfl,hb,d,hcd,hnz⟩:=H1.out j rfl;clear H1 hkp;go_wp2;clear hcd hnz;go_loopw [4,5] (fun v i wr=>∃k:Nat,k≤j+1∧i= .int .i64 k∧Own wr w.heap.size v (xs.take k)∧Below w.heap.size w wr) (fun _ i _=>j+1-(intOf i).toNat)
    case atStart=>exact ⟨0,Nat.zero_le _,rfl,Own.nil _ _,Below.refl _ _⟩
    case round=>
     obtain ⟨q,hq,rfl,hown,hbel⟩:=hrel;by_cases hlt:q<j+1
     ·obtain ⟨b',o',hA,_,hcell⟩:=HS.out q hlt;injection hA with hA;injection hA with hA1 hA2;subst hA1 hA2;have hcw:wr.cell? ⟨b,o+q,none⟩=some (.int .u32 (xs[q]'(by omega))):=(hbel.cell (p:=⟨b,o+q,none⟩) hb).trans hcell;clear hcell;go_wp2_with (at_builtin;refine wp_app1 _ _ wr w.heap.size _ (xs.take q) (xs[q]'(by omega)) rfl hown hbel.size (by simp;omega) rfl rfl rfl rfl ?_;intro v' w' hown' _ hbel');go_roundw
      case rel=>exact ⟨q+1,by omega,by go_num,by rw[←map_take_snoc (by omega)];exact hown',hbel.trans hbel'⟩
      case measure=>simp[intOf];omega
     ·go_wp2;go_ret;have:q=j+1:=by omega
      refine ⟨_,rfl,?_,hbel⟩;rw[HD.out,←this];exact hown
end Go.Proofs.YtjlhjabgclflcaaGreatDoor
namespace Go.Proofs.YtjlhjabgclflcaaGreatDoor
open Go.RowKit Num
end Go.Proofs.YtjlhjabgclflcaaGreatDoor
namespace Go.Proofs.YtjlhjabgclflcaaGreatDoor
open Go.RowKit Num
def fitR (n:Nat):List Nat×Int:=if (dig n).length≤256 then (dig n,0) else ([],3)
def addR (xs ys:List Nat):List Nat×Int:=if rightB xs&&rightB ys then fitR (val xs+val ys) else ([],2)
theorem digit_any (A:Option Addr) (c:Nat) (xs:List Nat) (i:Nat) (w:World) (h:Rd w A c xs) (hs:xs.length≤1000000):Calls Tryz.prog 141 #[.slice A xs.length c,.int .i64 i] w fun e w'=>e= .returned (.int .u64 (at0 xs i))∧w=w':=by
 by_cases hi:i<xs.length
 ·obtain ⟨b,o,rfl,hb,hc⟩:=h.at_ (by rintro rfl;simp at hi);have h1:=hc i hi;have hd:=h.ok.get hi;have e1:=Lib.hid (at0_in hi);clear hc;go_enter Tryz.func141,Tryz.ntmps141;go_wp2;go_ret;exact ⟨by rw[e1.out];rfl,rfl⟩
 ·have e1:=Lib.hid (at0_out hi);go_enter Tryz.func141,Tryz.ntmps141;go_wp2;go_ret;exact ⟨by rw[e1.out];rfl,rfl⟩
theorem step_add {P a b o cr dx dy s q:Nat} (h:o+P*cr=a+b) (hs:s+4294967296*q=dx+dy+cr):(o+P*s)+(P*4294967296)*q=(a+P*dx)+(b+P*dy):=by
 have e:P*s+P*4294967296*q=P*dx+P*dy+P*cr:=by
  rw[Nat.mul_assoc,←Nat.mul_add,hs,Nat.mul_add,Nat.mul_add]
 omega
theorem step_sub {P a b o cr dx dy s q:Nat} (h:o+b=a+P*cr) (hs:s+dy+cr=dx+4294967296*q):(o+P*s)+(b+P*dy)=(a+P*dx)+(P*4294967296)*q:=by
 have e:P*s+P*dy+P*cr=P*dx+P*4294967296*q:=by
  rw[Nat.mul_assoc,←Nat.mul_add,←Nat.mul_add,hs,Nat.mul_add]
 omega
theorem carry_out {P o x y cr:Nat} (b1:x<P) (b2:y<P) (h3:o+P*4294967296*cr=x+y):o=x+y:=by
 rcases Nat.eq_zero_or_pos cr with hc|hc
 ·rw[hc,Nat.mul_zero]at h3;omega
 ·obtain ⟨c',hc'⟩:∃c',cr=c'+1:=⟨cr-1,by omega⟩;rw[hc',Nat.mul_add,Nat.mul_one]at h3;generalize P*4294967296*c'=Z at h3;omega
def AddTo (xs ys:List Nat) (k:Nat) (outs:List Nat) (cr:Nat):Prop:=Ok outs∧outs.length=k∧val outs+4294967296^k*cr=val (xs.take k)+val (ys.take k)
theorem AddTo.zero (xs ys:List Nat):AddTo xs ys 0 [] 0:=⟨Ok.nil,rfl,by simp[val]⟩
theorem AddTo.step {xs ys:List Nat} {k:Nat} {outs:List Nat} {cr s q:Nat} (h:AddTo xs ys k outs cr) (hs:s<4294967296) (e:s+4294967296*q=at0 xs k+at0 ys k+cr):AddTo xs ys (k+1) (outs++[s]) q:=by
 obtain ⟨h1,h2,h3⟩:=h;refine ⟨h1.append (Ok.cons hs Ok.nil),by simp[h2],?_⟩;rw[val_snoc,h2,val_take_at0,val_take_at0,Nat.pow_succ];generalize 4294967296^k=P at h3⊢;exact step_add h3 e
theorem AddTo.done {xs ys:List Nat} {k:Nat} {outs:List Nat} {cr:Nat} (h:AddTo xs ys k outs cr) (hx:Ok xs) (hy:Ok ys) (h1:xs.length<k) (h2:ys.length<k):val outs=val xs+val ys:=by
 obtain ⟨_,_,h3⟩:=h;rw[List.take_of_length_le (by omega),List.take_of_length_le (by omega)]at h3;obtain ⟨j,rfl⟩:∃j,k=j+1:=⟨k-1,by omega⟩;have b1:val xs<4294967296^j:=Nat.lt_of_lt_of_le (val_lt hx) (Nat.pow_le_pow_right (by decide) (by omega));have b2:val ys<4294967296^j:=Nat.lt_of_lt_of_le (val_lt hy) (Nat.pow_le_pow_right (by decide) (by omega));rw[Nat.pow_succ]at h3;generalize 4294967296^j=P at h3 b1 b2;exact carry_out b1 b2 h3
theorem AddTo.last {xs ys:List Nat} {k:Nat} {outs:List Nat} {cr:Nat} (h:AddTo xs ys k outs cr) (h1:xs.length≤k) (h2:ys.length≤k):val (outs++[cr])=val xs+val ys:=by
 obtain ⟨_,hl,h3⟩:=h;rw[List.take_of_length_le h1,List.take_of_length_le h2]at h3;rw[val_snoc,hl,h3]
theorem plus_any (A B:Option Addr) (c d:Nat) (xs ys:List Nat) (w:World) (ha:Rd w A c xs) (hb:Rd w B d ys) (hs:xs.length≤100000) (ht:ys.length≤100000):Calls Tryz.prog 115 #[.slice A xs.length c,.slice B ys.length d] w fun e w'=>RetS w w' e (dig (val xs+val ys)):=by
 obtain ⟨M,hM⟩:∃M:Nat,M=max xs.length ys.length:=⟨_,rfl⟩;have hM1:xs.length≤M:=by omega
 have hM2:ys.length≤M:=by omega
 have hM3:M≤100000:=by omega
 have hmx:(if xs.length<ys.length then (ys.length:Int) else (xs.length:Int))=(M:Int):=by split<;>omega
 clear hM;go_enter Tryz.func115,Tryz.ntmps115;go_wp2;go_loopw [5,6,7] (fun v cv i wr=>∃(k:Nat) (outs:List Nat) (cr:Nat),k≤M+1∧i= .int .i64 k∧cv= .int .u64 cr∧cr≤1∧AddTo xs ys k outs cr∧Own wr w.heap.size v outs∧Below w.heap.size w wr) (fun _ _ i _=>M+1-(intOf i).toNat)
 case atStart=>exact ⟨0,[],0,by omega,rfl,rfl,by omega,AddTo.zero xs ys,Own.nil _ _,Below.refl _ _⟩
 case round=>
  obtain ⟨k,outs,cr,hk,rfl,rfl,hcr,hadd,hown,hbel⟩:=hrel;have ha1:=ha.below hbel (Nat.le_refl _);have hb1:=hb.below hbel (Nat.le_refl _);have hd1:=at0_lt ha.ok k;have hd2:=at0_lt hb.ok k;have hol:outs.length≤1000000:=by have:=hadd.2.1;omega
  have HA:=Lib.hid hadd;clear hadd;by_cases hlt:k<M+1
  ·go_wp2_with (first
    |(go_at_call 141;refine (digit_any _ _ _ _ _ (by first|exact ha1|exact hb1) (by omega)).mono ?_;rintro e w' ⟨rfl,rfl⟩)
    |(at_builtin;refine wp_app1 _ _ wr w.heap.size _ outs ((at0 xs k+at0 ys k+cr)%4294967296) (by omega) hown hbel.size hol rfl rfl rfl rfl ?_;intro v' w' hown' _ hbel'))
   go_roundw
   case rel=>exact ⟨k+1,_,(at0 xs k+at0 ys k+cr)/4294967296,by omega,by go_num,by go_num,by omega,HA.out.step (by omega) (by omega),hown',hbel.trans hbel'⟩
   case measure=>simp[intOf];omega
  ·go_wp2_with fail;obtain ⟨A',c',rfl,hr⟩:=hown.rd HA.out.1;refine (rtrim_any A' c' outs wr hr hol).mono ?_;rintro e w' ⟨v,rfl,h2,h3⟩;go_wp2;go_ret;have hv:=HA.out.done ha.ok hb.ok (by omega) (by omega);rw[hv]at h2;obtain ⟨A2,c2,rfl,hr2⟩:=h2.rd (dig_ok _);exact ⟨⟨A2,c2,rfl,hr2⟩,hbel.trans (h3.mono hbel.size)⟩
def SubTo (xs ys:List Nat) (k:Nat) (outs:List Nat) (cr:Nat):Prop:=Ok outs∧outs.length=k∧val outs+val (ys.take k)=val (xs.take k)+4294967296^k*cr
theorem SubTo.zero (xs ys:List Nat):SubTo xs ys 0 [] 0:=⟨Ok.nil,rfl,by simp[val]⟩
theorem SubTo.step {xs ys:List Nat} {k:Nat} {outs:List Nat} {cr s q:Nat} (h:SubTo xs ys k outs cr) (hs:s<4294967296) (e:s+at0 ys k+cr=at0 xs k+4294967296*q):SubTo xs ys (k+1) (outs++[s]) q:=by
 obtain ⟨h1,h2,h3⟩:=h;refine ⟨h1.append (Ok.cons hs Ok.nil),by simp[h2],?_⟩;rw[val_snoc,h2,val_take_at0,val_take_at0,Nat.pow_succ];generalize 4294967296^k=P at h3⊢;exact step_sub h3 e
theorem borrow_out {P o x y cr:Nat} (b1:o<P) (b2:y≤x) (h3:o+y=x+P*cr):o=x-y:=by
 rcases Nat.eq_zero_or_pos cr with hc|hc
 ·rw[hc,Nat.mul_zero]at h3;omega
 ·obtain ⟨c',hc'⟩:∃c',cr=c'+1:=⟨cr-1,by omega⟩;rw[hc',Nat.mul_add,Nat.mul_one]at h3;generalize P*c'=Z at h3;omega
theorem SubTo.done {xs ys:List Nat} {k:Nat} {outs:List Nat} {cr:Nat} (h:SubTo xs ys k outs cr) (h1:xs.length≤k) (h2:ys.length≤k) (hle:val ys≤val xs):val outs=val xs-val ys:=by
 obtain ⟨ho,hl,h3⟩:=h;rw[List.take_of_length_le h1,List.take_of_length_le h2]at h3;have b:=val_lt ho;rw[hl]at b;generalize 4294967296^k=P at h3 b;exact borrow_out b hle h3
theorem minus_any (A B:Option Addr) (c d:Nat) (xs ys:List Nat) (w:World) (ha:Rd w A c xs) (hb:Rd w B d ys) (hs:xs.length≤100000) (hl:ys.length≤xs.length) (hle:val ys≤val xs):Calls Tryz.prog 117 #[.slice A xs.length c,.slice B ys.length d] w fun e w'=>RetS w w' e (dig (val xs-val ys)):=by
 go_enter Tryz.func117,Tryz.ntmps117;go_wp2;go_loopw [5,6,7] (fun v cv i wr=>∃(k:Nat) (outs:List Nat) (cr:Nat),k≤xs.length∧i= .int .i64 k∧cv= .int .u64 cr∧cr≤1∧SubTo xs ys k outs cr∧Own wr w.heap.size v outs∧Below w.heap.size w wr) (fun _ _ i _=>xs.length-(intOf i).toNat)
 case atStart=>exact ⟨0,[],0,by omega,rfl,rfl,by omega,SubTo.zero xs ys,Own.nil _ _,Below.refl _ _⟩
 case round=>
  obtain ⟨k,outs,cr,hk,rfl,rfl,hcr,hadd,hown,hbel⟩:=hrel;have ha1:=ha.below hbel (Nat.le_refl _);have hb1:=hb.below hbel (Nat.le_refl _);have hd1:=at0_lt ha.ok k;have hd2:=at0_lt hb.ok k;have hol:outs.length≤1000000:=by have:=hadd.2.1;omega
  have HA:=Lib.hid hadd;clear hadd;by_cases hlt:k<xs.length
  ·go_wp2_with (first
    |(go_at_call 141;refine (digit_any _ _ _ _ _ (by first|exact ha1|exact hb1) (by omega)).mono ?_;rintro e w' ⟨rfl,rfl⟩)
    |(at_builtin;refine wp_app1 _ _ wr w.heap.size _ outs ((4294967296+at0 xs k-at0 ys k-cr)%4294967296) (by omega) hown hbel.size hol rfl rfl rfl rfl ?_;intro v' w' hown' _ hbel'))
   go_roundw
   case rel=>exact ⟨k+1,_,1-(4294967296+at0 xs k-at0 ys k-cr)/4294967296,by omega,by go_num,by go_num,by omega,HA.out.step (by omega) (by omega),hown',hbel.trans hbel'⟩
   case measure=>simp[intOf];omega
  ·go_wp2_with fail;obtain ⟨A',c',rfl,hr⟩:=hown.rd HA.out.1;refine (rtrim_any A' c' outs wr hr hol).mono ?_;rintro e w' ⟨v,rfl,h2,h3⟩;go_wp2;go_ret;have hv:=HA.out.done (by omega) (by omega) hle;rw[hv]at h2;obtain ⟨A2,c2,rfl,hr2⟩:=h2.rd (dig_ok _);exact ⟨⟨A2,c2,rfl,hr2⟩,hbel.trans (h3.mono hbel.size)⟩
end Go.Proofs.YtjlhjabgclflcaaGreatDoor
namespace Go.Proofs.YtjlhjabgclflcaaGreatDoor
open Go.RowKit Num
theorem right_dig {xs:List Nat} (ho:Ok xs) (h:rightB xs=true):dig (val xs)=xs:=by
 unfold rightB at h;exact dig_val ho (of_decide_eq_true h).2
theorem right_len {xs:List Nat} (h:rightB xs=true):xs.length≤256:=by
 unfold rightB at h;exact (of_decide_eq_true h).1
theorem dig_len_mono {m n:Nat} (h:m≤n):(dig m).length≤(dig n).length:=dig_length_le (Nat.lt_of_le_of_lt h (le_of_dig_length (Nat.le_refl _)))
theorem less_len {m n:Nat} (hl:¬(dig m).length=(dig n).length):decide ((dig m).length<(dig n).length)=decide (m<n):=by
 rcases Nat.lt_or_gt_of_ne hl with h|h
 ·exact (decide_eq_true h).trans (decide_eq_true (cmp_len h)).symm
 ·have:=cmp_len h;exact (decide_eq_false (by omega)).trans (decide_eq_false (by omega)).symm
theorem decide_lt_false {m n:Nat} (h:¬m<n):decide (m<n)=false:=decide_eq_false h
theorem less_any (A B:Option Addr) (c d m n:Nat) (w:World) (ha:Rd w A c (dig m)) (hb:Rd w B d (dig n)) (hs:(dig m).length≤1000000) (ht:(dig n).length≤1000000):Calls Tryz.prog 116 #[.slice A (dig m).length c,.slice B (dig n).length d] w fun e w'=>e= .returned (.bool (decide (m<n)))∧Read w w':=by
 by_cases hl:(dig m).length=(dig n).length
 ·have e1:(((dig m).length:Int) !=((dig n).length:Int))=false:=by simp[hl]
  have Hl:=Lib.hid hl;rw[hl]at e1⊢;clear hl;go_enter Tryz.func116,Tryz.ntmps116;go_wp2;go_loopw [5] (fun i wr=>∃k:Nat,k≤(dig n).length∧i= .int .i64 ((k:Int)-1)∧(dig m).drop k=(dig n).drop k∧Read w wr) (fun i _=>(intOf i+1).toNat)
  case atStart=>exact ⟨(dig n).length,Nat.le_refl _,rfl,by rw[List.drop_length,←Hl.out,List.drop_length],Read.refl w⟩
  case round=>
   obtain ⟨k,hk,rfl,heq,q,rfl⟩:=hrel;have Heq:=Lib.hid heq;clear heq;cases k with
   |zero=>
    go_wp2;go_ret;exact ⟨ret_bool (decide_lt_false (by have:=dig_inj (m:=m) (n:=n) (by simpa using Heq.out);omega)).symm,⟨q,rfl⟩⟩
   |succ k=>
    have hx:dig m≠[]:=by intro h;have:=Hl.out;rw[h]at this;simp at this;omega
    have hy:dig n≠[]:=by intro h;rw[h]at hk;simp at hk
    obtain ⟨b1,o1,rfl,hb1,hc1⟩:=ha.at_ hx;obtain ⟨b2,o2,rfl,hb2,hc2⟩:=hb.at_ hy;have hky:k<(dig n).length:=hk;have hkx:k<(dig m).length:=by rw[Hl.out];exact hk
    have h1:=hc1 k hkx;have h2:=hc2 k hky;clear hc1 hc2;by_cases hz:(dig m)[k]=(dig n)[k]
    ·have Hz:=Lib.hid hz;have hz1:(((dig m)[k]:Int) !=((dig n)[k]:Int))=false:=by simp[hz]
     clear hz;go_wp2;go_quiet (fail);go_wp2;go_roundw
     case rel=>exact ⟨k,by omega,by go_num,drop_step hkx hky Heq.out Hz.out,(by first|exact Read.refl _|exact ⟨_,rfl⟩|exact Read.drewN ⟨_,rfl⟩ _|exact Read.drewN (Read.drewN ⟨_,rfl⟩ _) _|exact Read.drewN (Read.refl _) _)⟩
     case measure=>simp[intOf]
    ·have hz1:(((dig m)[k]:Int) !=((dig n)[k]:Int))=true:=by simp;omega
     have HE:Hid (decide ((dig m)[k]<(dig n)[k])=decide (m<n)):=by
      rcases Nat.lt_or_gt_of_ne hz with h|h
      ·have h2:=cmp_top Hl.out hkx hky Heq.out h;exact (decide_eq_true (by omega)).trans (decide_eq_true h2).symm
      ·have h2:=cmp_top Hl.out.symm hky hkx Heq.out.symm h;exact (decide_eq_false (by omega)).trans (decide_eq_false (by omega)).symm
     clear hz;go_wp2;go_quiet (fail);go_wp2;go_quiet (fail);go_wp2;go_ret;exact ⟨ret_bool HE.out,(by first|exact Read.refl _|exact ⟨_,rfl⟩|exact Read.drewN ⟨_,rfl⟩ _|exact Read.drewN (Read.drewN ⟨_,rfl⟩ _) _|exact Read.drewN (Read.refl _) _)⟩
 ·have e1:(((dig m).length:Int) !=((dig n).length:Int))=true:=by simp;omega
  have HE:=Lib.hid (less_len hl);go_enter Tryz.func116,Tryz.ntmps116;go_wp2;go_ret;exact ⟨ret_bool HE.out,Read.refl w⟩
end Go.Proofs.YtjlhjabgclflcaaGreatDoor
namespace Go.Proofs.YtjlhjabgclflcaaGreatDoor
open Go.RowKit Num
end Go.Proofs.YtjlhjabgclflcaaGreatDoor
namespace Go.Proofs.YtjlhjabgclflcaaGreatDoor
open Go.RowKit Num
theorem rep_snoc (k:Nat):List.replicate k 0++[0]=List.replicate (k+1) (0:Nat):=by rw[List.replicate_succ']
theorem scaled_any (A:Option Addr) (c:Nat) (xs:List Nat) (d by_:Nat) (w:World) (ha:Rd w A c xs) (hs:xs.length≤100000) (hd:d<4294967296) (hy:by_≤100000):Calls Tryz.prog 143 #[.slice A xs.length c,.int .u64 d,.int .i64 by_] w fun e w'=>RetS w w' e (dig (val xs*d*4294967296^by_)):=by
 go_enter Tryz.func143,Tryz.ntmps143;go_wp2;go_loopw [7,8] (fun v i wr=>∃(k:Nat),k≤by_∧i= .int .i64 k∧Own wr w.heap.size v (List.replicate k 0)∧Below w.heap.size w wr) (fun _ i _=>by_-(intOf i).toNat)
 case atStart=>exact ⟨0,by omega,rfl,Own.nil _ _,Below.refl _ _⟩
 case round=>
  obtain ⟨k,hk,rfl,hown,hbel⟩:=hrel;by_cases hlt:k<by_
  ·go_wp2_with (at_builtin;refine wp_app1 _ _ _ w.heap.size _ _ 0 rfl hown hbel.size (by simp;omega) rfl rfl rfl rfl ?_;intro v' w' hown' _ hbel');go_roundw
   case rel=>exact ⟨k+1,by omega,by go_num,by rw[←rep_snoc];exact hown',hbel.trans hbel'⟩
   case measure=>simp[intOf];omega
  ·have hkb:k=by_:=by omega
   subst hkb;go_wp2;go_loopw [7,9,10] (fun v cv i wr=>∃(j:Nat) (outs:List Nat) (cr:Nat),j≤xs.length+1∧i= .int .i64 j∧cv= .int .u64 cr∧Scal xs d k j outs cr∧Own wr w.heap.size v outs∧Below w.heap.size w wr) (fun _ _ i _=>xs.length+1-(intOf i).toNat)
   case atStart=>exact ⟨0,_,0,by omega,rfl,rfl,Scal.zero xs d k,hown,hbel⟩
   case round=>
    obtain ⟨j,outs,cr,hj,rfl,rfl,hsc,hown1,hbel1⟩:=hrel;have hol:outs.length≤1000000:=by have:=hsc.2.1;omega
    have hcr:=hsc.2.2.1;have HS:=Lib.hid hsc;clear hsc hown hbel hk hlt;have ha1:=ha.below hbel1 (Nat.le_refl _);have hd1:=at0_lt ha.ok j;have hm:=Nat.mul_le_mul (Nat.le_of_lt_succ hd1) (Nat.le_of_lt_succ hd);have hm1:(at0 xs j:Int)*(d:Int)≤18446744065119617025:=by
     have:((at0 xs j*d:Nat):Int)≤((4294967295*4294967295:Nat):Int):=Int.ofNat_le.2 hm;rw[Int.natCast_mul]at this;omega
    have hm0:0≤(at0 xs j:Int)*(d:Int):=by
     have:(0:Int)≤((at0 xs j*d:Nat):Int):=Int.natCast_nonneg _;rwa[Int.natCast_mul]at this
    obtain ⟨M,hM⟩:∃M:Nat,(at0 xs j:Int)*(d:Int)=(M:Int):=⟨at0 xs j*d,(Int.natCast_mul _ _).symm⟩;have hMn:M=at0 xs j*d:=by
     apply Int.ofNat.inj;show (M:Int)=((at0 xs j*d:Nat):Int);rw[←hM,Int.natCast_mul]
    rw[hM]at hm1 hm0;have HM:=Lib.hid hMn;clear hm hMn;by_cases hlt:j<xs.length+1
    ·go_wp2_with (first
      |(go_at_call 141;refine (digit_any _ _ _ _ _ ha1 (by omega)).mono ?_;rintro e w' ⟨rfl,rfl⟩)
      |(at_builtin;refine wp_app1 _ _ _ w.heap.size _ outs ((M+cr)%4294967296) (by omega) hown1 hbel1.size hol rfl rfl rfl rfl ?_;intro v' w' hown' _ hbel'))
     go_roundw
     case rel=>exact ⟨j+1,_,(M+cr)/4294967296,by omega,by go_num,by go_num,HS.out.step (by omega) (by omega) (by rw[←HM.out];omega),hown',hbel1.trans hbel'⟩
     case measure=>simp[intOf];omega
    ·have hjl:j=xs.length+1:=by omega
     subst hjl;obtain ⟨A',c',rfl,hr⟩:=hown1.rd HS.out.1;go_wp2_with (go_at_call 142;refine (rtrim_any A' c' outs _ hr hol).mono ?_;rintro e w' ⟨v,rfl,h2,h3⟩);go_ret;have hv:=HS.out.done ha.ok hd;rw[hv]at h2;obtain ⟨A2,c2,rfl,hr2⟩:=h2.rd (dig_ok _);exact ⟨⟨A2,c2,rfl,hr2⟩,hbel1.trans (h3.mono hbel1.size)⟩
theorem product_any (A B:Option Addr) (c d:Nat) (xs ys:List Nat) (w:World) (ha:Rd w A c xs) (hb:Rd w B d ys) (hs:xs.length≤10000) (ht:ys.length≤10000):Calls Tryz.prog 118 #[.slice A xs.length c,.slice B ys.length d] w fun e w'=>RetS w w' e (dig (val xs*val ys)):=by
 go_enter Tryz.func118,Tryz.ntmps118;go_wp2;go_loopw [5,6] (fun v i wr=>∃(k:Nat) (A1:Option Addr) (c1:Nat),k≤ys.length∧i= .int .i64 k∧v= .slice A1 (dig (val xs*val (ys.take k))).length c1∧Rd wr A1 c1 (dig (val xs*val (ys.take k)))∧Below w.heap.size w wr) (fun _ i _=>ys.length-(intOf i).toNat)
 case atStart=>
  have e:dig (val xs*val (ys.take 0))=[]:=by simp[val,dig_zero]
  exact ⟨0,none,0,by omega,rfl,by rw[e];rfl,by rw[e];exact Rd.nil,Below.refl _ _⟩
 case round=>
  obtain ⟨k,A1,c1,hk,rfl,rfl,hr1,hbel⟩:=hrel;have hl1:(dig (val xs*val (ys.take k))).length≤20000:=by
   have h3:=val_lt (hb.ok.take k);have:=prod_len (val_lt ha.ok) h3;rw[List.length_take]at this;omega
  by_cases hlt:k<ys.length
  ·obtain ⟨b2,o2,rfl,hb2,hc2⟩:=hb.at_ (by rintro rfl;simp at hlt);have h2:wr.cell? ⟨b2,o2+k,none⟩=some (.int .u32 (ys[k]'hlt)):=(hbel.cell (p:=⟨b2,o2+k,none⟩) hb2).trans (hc2 k hlt);have hd2:=hb.ok.get hlt;clear hc2;have ha1:=ha.below hbel (Nat.le_refl _);have hl2:(dig (val xs*ys[k]*4294967296^k)).length≤30000:=by
    have h4:val xs*ys[k]<4294967296^(xs.length+1):=by
     rw[Nat.pow_succ];exact Nat.mul_lt_mul'' (val_lt ha.ok) hd2
    have h5:(4294967296^k:Nat)<4294967296^(k+1):=Nat.pow_lt_pow_right (by decide) (by omega);have:=prod_len h4 h5;omega
   have HE:Hid (val xs*val (ys.take k)+val xs*ys[k]*4294967296^k=val xs*val (ys.take (k+1))):=by
    unfold Hid;rw[val_take_succ ys k hlt,Nat.mul_add,Nat.mul_assoc,Nat.mul_comm (ys[k])]
   obtain ⟨X,hX⟩:∃X,X=val xs*val (ys.take k):=⟨_,rfl⟩;rw[←hX]at HE hr1 hl1⊢;have HX:=Lib.hid hX;clear hX;obtain ⟨Y,hY⟩:∃Y,Y=val xs*ys[k]*4294967296^k:=⟨_,rfl⟩;have hv1:=val_dig X;have hv2:=val_dig Y;go_wp2_with (first
    |(go_at_call 143;refine (scaled_any _ _ _ _ _ _ ha1 (by omega) hd2 (by omega)).mono ?_;rintro e w1 ⟨⟨A2,c2,rfl,hr2⟩,hb2'⟩;rw[←hY]at hr2 HE hl2⊢;have HY:=Lib.hid hY;clear hY)
    |(go_at_call 115;refine (plus_any _ _ _ _ _ _ _ (hr1.below hb2' (Nat.le_refl _)) hr2 (by omega) (by omega)).mono ?_;rintro e w2 ⟨⟨A3,c3,rfl,hr3⟩,hb3⟩;rw[hv1,hv2]at hr3⊢))
   go_roundw
   case rel=>
    have h6:=HE.out;exact ⟨k+1,A3,c3,by omega,by go_num,by rw[←h6],by rw[←h6];exact hr3,hbel.trans ((hb2'.mono hbel.size).trans (hb3.mono (Nat.le_trans hbel.size hb2'.size)))⟩
   case measure=>simp[intOf];omega
  ·have hjl:k=ys.length:=by omega
   subst hjl;go_wp2;go_ret;rw[List.take_length]at hr1⊢;exact ⟨⟨A1,c1,rfl,hr1⟩,hbel⟩
end Go.Proofs.YtjlhjabgclflcaaGreatDoor
namespace Go.Proofs.YtjlhjabgclflcaaGreatDoor
open Go.RowKit Num
end Go.Proofs.YtjlhjabgclflcaaGreatDoor
namespace Go.Proofs.YtjlhjabgclflcaaGreatDoor
open Go.RowKit Num
end Go.Proofs.YtjlhjabgclflcaaGreatDoor
namespace Go.Proofs.YtjlhjabgclflcaaGreatDoor
open Go.RowKit Num
theorem gb_refl (w:World) (row:Option Nat):w.grownBy w row:=⟨rfl,rfl,rfl,Nat.le_refl _,fun _ _ _=>rfl⟩
theorem gb_trans {w w' w'':World} {row:Option Nat} (h:w.grownBy w' row) (h':w'.grownBy w'' row):w.grownBy w'' row:=
 ⟨h'.os.trans h.os,h'.tape.trans h.tape,h'.output.trans h.output,Nat.le_trans h.size h'.size,fun k hk hne=>(h'.block k (Nat.lt_of_lt_of_le hk h.size) hne).trans (h.block k hk hne)⟩
theorem gb_set {w w':World} {g:Nat} (h:w.grownBy w' (some g)) (i:Nat) (u:Value):w.grownBy (w'.setCell ⟨g,i,none⟩ u) (some g):=
 gb_trans h ⟨rfl,rfl,rfl,by simp[World.setCell],fun k _ hne=>Below.heap_setCell _ _ _ _ (fun e=>hne (by rw[e]))⟩
theorem Row.grown {w w':World} {g h:Nat} {xs:List Nat} (hr:Row w h xs) (hg:w.grownBy w' (some g)) (hne:h≠g):Row w' h xs:=(hg.block h hr.lt (fun e=>hne (by injection e))).trans hr
def Off (A:Option Addr) (g:Nat):Prop:=∀a,A=some a→a.block≠g
theorem Rd.grown {w w':World} {A:Option Addr} {c g:Nat} {xs:List Nat} (h:Rd w A c xs) (hg:w.grownBy w' (some g)) (hne:Off A g):Rd w' A c xs:=
 ⟨h.room,h.cap,h.ok,fun hn=>by
  obtain ⟨b,o,hA,hlt,hc⟩:=h.at_ hn;exact ⟨b,o,hA,Nat.lt_of_lt_of_le hlt hg.size,fun j hj=>hg.cell (hc j hj) (fun e=>hne _ hA (by simpa using e))⟩⟩
theorem below_grown {w0 w w':World} {B g:Nat} (h:Below B w0 w) (hg:w.grownBy w' (some g)) (hB:B≤w.heap.size) (hgB:B≤g):Below B w0 w':=h.grown hg hB (by intro k hk;injection hk with hk;omega)
end Go.Proofs.YtjlhjabgclflcaaGreatDoor
namespace Go.Proofs.YtjlhjabgclflcaaGreatDoor
open Go.RowKit Num
theorem of_val (u:Nat):val [u%4294967296,u/4294967296]=u:=by simp[val];omega
theorem row_two (w:World) (a b:Nat):Row (w.alloc (.cells #[.int .u32 (a:Int),.int .u32 (b:Int)] 152)) w.heap.size [a,b]:=heap_alloc_new w _
theorem rof_any (u:Nat) (w:World) (hu:u<18446744073709551616):Calls Tryz.prog 119 #[.int .u64 u] w fun e w'=>RetS w w' e (dig u):=by
 have hlo:(((u%4294967296:Nat)):Int)=(u:Int)%4294967296:=by omega
 have hhi:(((u/4294967296:Nat)):Int)=(u:Int)/4294967296:=by omega
 have hR:=row_two w (u%4294967296) (u/4294967296);rw[hlo,hhi]at hR;have ho:Ok [u%4294967296,u/4294967296]:=Ok.cons (by omega) (Ok.cons (by omega) Ok.nil);have hrd:=hR.rd ho (by simp);have HV:=Lib.hid (of_val u);have hbel:Below w.heap.size w (w.alloc (.cells #[.int .u32 ((u:Int)%4294967296),.int .u32 ((u:Int)/4294967296)] 152)):=(Below.refl _ _).alloc (Nat.le_refl _) _;have hC:∀w',Rd w' (some ⟨w.heap.size,0,none⟩) 2 [u%4294967296,u/4294967296]→Calls Tryz.prog 142 #[.slice (some ⟨w.heap.size,0,none⟩) 2 2] w' fun e w2=>RetS w' w2 e (dig u):=by
  intro w' hr;have:=((rtrim_any _ _ _ w' hr (by simp)).mono (fun e w2 ⟨v,h1,h2,h3⟩=>by rw[HV.out]at h2;obtain ⟨A2,c2,h4,h5⟩:=h2.rd (dig_ok _);subst h4;exact ⟨⟨_,_,h1,h5⟩,h3⟩):Calls Tryz.prog 142 #[.slice (some ⟨w.heap.size,0,none⟩) 2 2] w' fun e w2=>RetS w' w2 e (dig u));exact this
 have HC:=Lib.hid hC;have HH:=Lib.hid (And.intro hlo hhi);have HRD:=Lib.hid hrd;clear hlo hhi hR ho hC hrd;go_enter Tryz.func119,Tryz.ntmps119;go_wp2_with (go_at_call 142;refine (HC.out _ HRD.out).mono ?_;rintro e w' ⟨⟨A1,c1,rfl,h2⟩,h3⟩);go_ret;exact ⟨⟨A1,c1,rfl,h2⟩,hbel.trans (h3.mono hbel.size)⟩
end Go.Proofs.YtjlhjabgclflcaaGreatDoor
namespace Go.Proofs.YtjlhjabgclflcaaGreatDoor
open Go.RowKit Num
end Go.Proofs.YtjlhjabgclflcaaGreatDoor
namespace Go.Proofs.YtjlhjabgclflcaaGreatDoor
open Go.RowKit Num
theorem Rd.far {w:World} {A:Option Addr} {c g:Nat} {xs:List Nat} (h:Rd w A c xs) (hne:Off A g) (i:Nat) (u:Value):Rd (w.setCell ⟨g,i,none⟩ u) A c xs:=h.grown (gb_set (gb_refl w (some g)) i u) hne
end Go.Proofs.YtjlhjabgclflcaaGreatDoor
namespace Go.Proofs.YtjlhjabgclflcaaGreatDoor
open Go.RowKit Num
end Go.Proofs.YtjlhjabgclflcaaGreatDoor
namespace Go.Proofs.YtjlhjabgclflcaaGreatDoor
open Go.RowKit Num
end Go.Proofs.YtjlhjabgclflcaaGreatDoor
namespace Go.Proofs.YtjlhjabgclflcaaGreatDoor
open Go.RowKit Num
theorem lit1 (w:World) (d:Nat) {D:Int} {g:Nat} (hD:D=(d:Int)) (hg:g=w.heap.size) (h:d<4294967296):Rd (w.alloc (.cells #[.int .u32 D] 152)) (some ⟨g,0,none⟩) 1 [d]:=by
 subst hD hg;have hr:Row (w.alloc (.cells #[.int .u32 (d:Int)] 152)) w.heap.size [d]:=heap_alloc_new w _;exact hr.rd (Ok.cons h Ok.nil) (by simp)
theorem below_alloc {w0 w:World} {B:Nat} (h:Below B w0 w) (hB:B≤w0.heap.size) (o:Obj):Below B w0 (w.alloc o):=h.alloc (Nat.le_trans hB h.size) o
end Go.Proofs.YtjlhjabgclflcaaGreatDoor
namespace Go.Proofs.YtjlhjabgclflcaaGreatDoor
open Go.RowKit Num
theorem Rd.len {w:World} {A:Option Addr} {c:Nat} {xs:List Nat} (h:Rd w A c xs):xs.length≤9223372036854775807:=by
 have h1:=h.room;have h2:=h.cap;unfold maxLen at h2;omega
end Go.Proofs.YtjlhjabgclflcaaGreatDoor
namespace Go.Proofs.YtjlhjabgclflcaaGreatDoor
open Go.RowKit Num
theorem Own.form {w:World} {base:Nat} {v:Value} {xs:List Nat} (h:Own w base v xs):(v= .slice none 0 0∧xs=[])∨∃g cap,v= .slice (some ⟨g,0,none⟩) xs.length cap∧base≤g:=by
 rcases h.2 with ⟨hv,h0⟩|⟨g,cap,cur,hv,hg,_⟩
 ·exact .inl ⟨hv,List.eq_nil_of_length_eq_zero h0⟩
 ·exact .inr ⟨g,cap,hv,hg⟩
theorem Own.set {w:World} {base g cap n:Nat} {xs:List Nat} (h:Own w base (.slice (some ⟨g,0,none⟩) n cap) xs) (hn:xs.length=n) (j d:Nat) {D:Int} (hD:D=(d:Int)):Own (w.setCell ⟨g,j,none⟩ (.int .u32 D)) base (.slice (some ⟨g,0,none⟩) n cap) (xs.set j d):=by
 subst hn hD;have:=World.ownsRow.stored h j (dv d);unfold Own;rw[List.length_set,List.map_set];exact this.1
theorem Own.cell {w:World} {base g cap n:Nat} {xs:List Nat} (h:Own w base (.slice (some ⟨g,0,none⟩) n cap) xs) (hn:xs.length=n) {j:Nat} (hj:j<xs.length):w.cell? ⟨g,j,none⟩=some (.int .u32 xs[j])∧w.frozen? ⟨g,j,none⟩=false:=by
 subst hn;refine ⟨?_,World.ownsRow.frozenAt h j⟩;rw[World.ownsRow.cellAt h j (by omega)];simp[hj,dv]
end Go.Proofs.YtjlhjabgclflcaaGreatDoor
namespace Go.Proofs.YtjlhjabgclflcaaGreatDoor
open Go.RowKit Num
end Go.Proofs.YtjlhjabgclflcaaGreatDoor
namespace Go.Proofs.YtjlhjabgclflcaaGreatDoor
open Go.RowKit Num
theorem right_dig' {n:Nat} (h:(dig n).length≤256):rightB (dig n)=true:=by
 unfold rightB;exact decide_eq_true ⟨h,fine_dig n⟩
end Go.Proofs.YtjlhjabgclflcaaGreatDoor
namespace Go.Proofs.YtjlhjabgclflcaaGreatDoor
open Go.RowKit Num
end Go.Proofs.YtjlhjabgclflcaaGreatDoor
namespace Go.Proofs.YtjlhjabgclflcaaGreatDoor
open Go.RowKit Num
def uintR (xs:List Nat):Nat×Int:=if rightB xs then (if xs.length≤2 then (val xs,0) else (0,4)) else (0,2)
def RetUE (e:Ending) (r:Nat×Int):Prop:=e= .returned (.tuple #[.int .u64 r.1,.int .i64 r.2])
theorem ruint_any (A:Option Addr) (c:Nat) (xs:List Nat) (w:World) (ha:Rd w A c xs) (hs:xs.length≤1000000):Calls Tryz.prog 121 #[.slice A xs.length c] w fun e w'=>RetUE e (uintR xs)∧Read w w':=by
 by_cases h1:rightB xs=true
 case neg=>
  have h1':rightB xs=false:=by simpa using h1
  have HE:Hid (uintR xs=(0,2)):=by unfold Hid uintR;rw[h1'];rfl
  clear h1;go_enter Tryz.func121,Tryz.ntmps121;go_wp2_with fail;refine (rright_any A c xs w ha).mono ?_;rintro e w2 ⟨rfl,rfl⟩;rw[h1'];go_wp2;go_ret2;rw[HE.out];exact ⟨rfl,Read.refl _⟩
 by_cases h2:xs.length≤2
 case neg=>
  have HE:Hid (uintR xs=(0,4)):=by unfold Hid uintR;rw[if_pos h1,if_neg h2]
  go_enter Tryz.func121,Tryz.ntmps121;go_wp2_with fail;refine (rright_any A c xs w ha).mono ?_;rintro e w2 ⟨rfl,rfl⟩;rw[h1];go_wp2;go_ret2;rw[HE.out];exact ⟨rfl,Read.refl _⟩
 have HE:Hid (uintR xs=(val xs,0)):=by unfold Hid uintR;rw[if_pos h1,if_pos h2]
 go_enter Tryz.func121,Tryz.ntmps121;go_wp2_with fail;refine (rright_any A c xs w ha).mono ?_;rintro e w2 ⟨rfl,rfl⟩;rw[h1];go_wp2;go_loop [4,5] (fun uv iv=>∃k u:Nat,k≤xs.length∧iv= .int .i64 ((k:Int)-1)∧uv= .int .u64 u∧Hid (u=val (xs.drop k))∧(1≤k→u<4294967296)∧Hid (k=xs.length→u=0)) (fun _ iv=>(intOf iv+1).toNat)
 case atStart=>exact ⟨xs.length,0,by omega,rfl,rfl,by unfold Hid;rw[List.drop_length];rfl,fun _=>by decide,fun _=>rfl⟩
 case round=>
  obtain ⟨k,u,hk,rfl,rfl,HU,hu1,hu0⟩:=hrel;cases k with
  |succ k=>
   have hlt:k<xs.length:=hk;obtain ⟨b1,o1,rfl,hb1,hc1⟩:=ha.at_ (by rintro rfl;simp at hlt);have g1:=hc1 k hlt;have hd1:=ha.ok.get hlt;have hv:=val_drop xs k hlt;clear hc1;generalize xs[k]=di at*;have hw1:=hu1 (by omega);have HV:Hid (u*4294967296+di=val (xs.drop k)):=by
    unfold Hid;rw[hv,←HU.out,Nat.mul_comm,Nat.add_comm]
   have HB:Hid (1≤k→u*4294967296+di<4294967296):=by
    intro h;have:=hu0.out (by omega);omega
   clear hv hu1;go_wp2;go_round
   case rel=>exact ⟨k,u*4294967296+di,by omega,by go_num,by go_num,HV,HB.out,fun h=>by omega⟩
   case measure=>simp[intOf]
  |zero=>
   have HV:Hid (u=val xs):=by have:=HU.out;rwa[List.drop_zero]at this
   go_wp2;go_ret2;rw[HE.out,←HV.out];exact ⟨rfl,Read.refl _⟩
end Go.Proofs.YtjlhjabgclflcaaGreatDoor
namespace Go.Proofs.YtjlhjabgclflcaaGreatDoor
open Go.RowKit Num
end Go.Proofs.YtjlhjabgclflcaaGreatDoor
set_option linter.unusedSimpArgs false
set_option linter.unusedVariables false
namespace Go.Proofs.YtjlhjabgclflcaaGreatDoor
open Go.RowKit Num
def sright (neg:Bool) (xs:List Nat):Bool:=rightB xs&&(!neg||decide (xs≠[]))
def sv (neg:Bool) (xs:List Nat):Int:=if neg then-(val xs:Int) else val xs
def sN (z:Int):Bool:=decide (z<0)
def sD (z:Int):List Nat:=dig z.natAbs
abbrev R3:=Bool×List Nat×Int
def sok (z:Int):R3:=(sN z,sD z,0)
def sbad (c:Int):R3:=(false,[],c)
theorem sright_rightB {neg:Bool} {xs:List Nat} (h:sright neg xs=true):rightB xs=true:=by
 unfold sright at h;rw[Bool.and_eq_true]at h;exact h.1
theorem sright_ne {xs:List Nat} (h:sright true xs=true):xs≠[]:=by
 unfold sright at h;simp at h;exact h.2
theorem sright_of {neg:Bool} {xs:List Nat} (h:rightB xs=true) (h2:neg=true→xs≠[]):sright neg xs=true:=by
 unfold sright;rw[h];cases neg
 ·rfl
 ·simp[h2 rfl]
theorem val_pos_right {xs:List Nat} (ho:Ok xs) (h:rightB xs=true) (hne:xs≠[]):0<val xs:=by
 have:=right_dig ho h;rcases Nat.eq_zero_or_pos (val xs) with h0|h0
 ·rw[h0]at this;exact absurd this.symm hne
 ·exact h0
theorem sD_of (n:Bool) (m:Nat):sD (if n then-(m:Int) else m)=dig m:=by
 unfold sD;cases n<;>simp
theorem sv_dig {neg:Bool} {xs:List Nat} (ho:Ok xs) (h:sright neg xs=true):sD (sv neg xs)=xs:=by
 unfold sv;rw[sD_of];exact right_dig ho (sright_rightB h)
theorem sv_abs (neg:Bool) (xs:List Nat):(sv neg xs).natAbs=val xs:=by unfold sv;cases neg<;>simp
theorem sright_sd {z:Int} (h:(sD z).length≤256):sright (sN z) (sD z)=true:=by
 refine sright_of (right_dig' h) (fun e=> ?_);unfold sN at e;have hz:z<0:=of_decide_eq_true e;intro h0;have:=dig_eq_nil.1 h0;omega
theorem sv_sd (z:Int):sv (sN z) (sD z)=z:=by
 unfold sv sN sD;rw[val_dig];by_cases h:z<0<;>simp[h]<;>omega
theorem sD_neg (z:Int):sD (-z)=sD z:=by unfold sD;rw[Int.natAbs_neg]
def snegR (n:Bool) (xs:List Nat):R3:=if sright n xs then sok (-(sv n xs)) else sbad 2
def ssmallR (n:Bool) (xs:List Nat):Int×Int:=if sright n xs then (if-9223372036854775808≤sv n xs∧sv n xs<9223372036854775808 then (sv n xs,0) else (0,4)) else (0,2)
end Go.Proofs.YtjlhjabgclflcaaGreatDoor
namespace Go.Proofs.YtjlhjabgclflcaaGreatDoor
open Go.RowKit Num
def madeR (n:Bool) (r:List Nat×Int):R3:=if r.2=0 then (n&&decide (r.1≠[]),r.1,0) else sbad r.2
theorem madeR_dig (n:Bool) (k:Nat):madeR n (dig k,0)=sok (if n then-(k:Int) else k):=by
 unfold madeR sok;rw[if_pos rfl,sD_of];refine Prod.ext ?_ rfl;show (n&&decide (dig k≠[]))=sN (if n then-(k:Int) else k);unfold sN;cases n
 ·simp
 ·by_cases h:k=0
  ·subst h;rfl
  ·have:dig k≠[]:=fun e=>h (dig_eq_nil.1 e);simp[this];omega
end Go.Proofs.YtjlhjabgclflcaaGreatDoor
namespace Go.Proofs.YtjlhjabgclflcaaGreatDoor
open Go.RowKit Num
abbrev iv (neg:Bool) (A:Option Addr) (n c:Nat):Value:= .agg #[.bool neg,.slice A n c]
theorem below_alloc1 (w:World) (o:Obj):Below w.heap.size w (w.alloc o):=(Below.refl w.heap.size w).alloc (Nat.le_refl _) o
def RetI (w w':World) (e:Ending) (r:R3):Prop:=(∃A c,e= .returned (.tuple #[iv r.1 A r.2.1.length c,.int .i64 r.2.2])∧Rd w' A c r.2.1)∧Below w.heap.size w w'
def RetN (w w':World) (e:Ending) (r:Bool×List Nat):Prop:=(∃A c,e= .returned (iv r.1 A r.2.length c)∧Rd w' A c r.2)∧Below w.heap.size w w'
theorem srright_any (neg:Bool) (A:Option Addr) (c:Nat) (xs:List Nat) (w:World) (ha:Rd w A c xs):Calls Tryz.prog 120 #[iv neg A xs.length c] w fun e w'=>e= .returned (.bool (sright neg xs))∧Below w.heap.size w w':=by
 have hl:=ha.len;rcases Bool.eq_false_or_eq_true (rightB xs) with h1|h1
 ·have H1:=Lib.hid h1;cases neg
  ·have HE:Hid (sright false xs=true):=by unfold Hid sright;rw[h1];rfl
   clear h1;go_enter Tryz.func120,Tryz.ntmps120;go_wp2_with fail;refine (rright_any A c xs _ (ha.alloc _)).mono ?_;rintro e w2 ⟨rfl,rfl⟩;rw[H1.out];go_wp2;go_ret;rw[HE.out];exact ⟨rfl,below_alloc1 _ _⟩
  ·by_cases hx:xs=[]
   ·subst hx;have HE:Hid (sright true []=false):=by unfold Hid sright;simp
    clear h1;go_enter Tryz.func120,Tryz.ntmps120;go_wp2_with fail;refine (rright_any A c [] _ (ha.alloc _)).mono ?_;rintro e w2 ⟨rfl,rfl⟩;rw[H1.out];go_wp2;go_ret;rw[HE.out];exact ⟨rfl,below_alloc1 _ _⟩
   ·have HE:Hid (sright true xs=true):=by unfold Hid sright;rw[h1];simpa using hx
    have h3:0<xs.length:=List.length_pos_iff.2 hx;have h4:((xs.length:Int)==0)=false:=beq_eq_false_iff_ne.2 (by omega);clear h1 hx;go_enter Tryz.func120,Tryz.ntmps120;go_wp2_with fail;refine (rright_any A c xs _ (ha.alloc _)).mono ?_;rintro e w2 ⟨rfl,rfl⟩;rw[H1.out];go_wp2;go_ret;rw[HE.out];exact ⟨rfl,below_alloc1 _ _⟩
 ·have HE:Hid (sright neg xs=false):=by unfold Hid sright;rw[h1];rfl
  have H1:=Lib.hid h1;clear h1;go_enter Tryz.func120,Tryz.ntmps120;go_wp2_with fail;refine (rright_any A c xs _ (ha.alloc _)).mono ?_;rintro e w2 ⟨rfl,rfl⟩;rw[H1.out];go_wp2;go_ret;rw[HE.out];exact ⟨rfl,below_alloc1 _ _⟩
end Go.Proofs.YtjlhjabgclflcaaGreatDoor
namespace Go.Proofs.YtjlhjabgclflcaaGreatDoor
open Go.RowKit Num
def Blk (w:World) (g:Nat) (t:TypeId) (cs:Array Value):Prop:=w.heap[g]? =some (.cells cs t (0,0))
theorem Blk.lt {w:World} {g:Nat} {t:TypeId} {cs:Array Value} (h:Blk w g t cs):g<w.heap.size:=(Array.getElem?_eq_some_iff.1 h).1
theorem Blk.cell {w:World} {g:Nat} {t:TypeId} {cs:Array Value} (h:Blk w g t cs) (i:Nat):w.cell? ⟨g,i,none⟩=cs[i]? :=cell_of_row w g i cs t (0,0) h
theorem Blk.frozen {w:World} {g:Nat} {t:TypeId} {cs:Array Value} (h:Blk w g t cs) (i:Nat):w.frozen? ⟨g,i,none⟩=false:=by
 unfold Blk at h;simp[World.frozen?,h]
theorem Blk.new (w:World) (t:TypeId) (cs:Array Value):Blk (w.alloc (.cells cs t)) w.heap.size t cs:=heap_alloc_new w _
theorem Blk.at_ {w:World} {g:Nat} {t:TypeId} {cs:Array Value} (h:g=w.heap.size):Blk (w.alloc (.cells cs t)) g t cs:=by subst h;exact Blk.new ..
theorem Blk.drewN {w:World} {g:Nat} {t:TypeId} {cs:Array Value} (h:Blk w g t cs) (n:Nat):Blk (w.drewN n) g t cs:=h
theorem Blk.drew {w:World} {g:Nat} {t:TypeId} {cs:Array Value} (h:Blk w g t cs):Blk w.drew g t cs:=h
theorem Blk.alloc {w:World} {g:Nat} {t:TypeId} {cs:Array Value} (h:Blk w g t cs) (o:Obj):Blk (w.alloc o) g t cs:=(Below.heap_alloc w o g h.lt).trans h
theorem Blk.set_ {w:World} {g:Nat} {t:TypeId} {cs:Array Value} (h:Blk w g t cs) (i:Nat) (u:Value):Blk (w.setCell ⟨g,i,none⟩ u) g t (cs.setIfInBounds i u):=by
 unfold Blk at h⊢;simp[World.setCell,Array.getElem?_modify,h]
theorem Blk.far {w:World} {g:Nat} {t:TypeId} {cs:Array Value} (h:Blk w g t cs) {p:Addr} (hp:g≠p.block) (u:Value):Blk (w.setCell p u) g t cs:=(Below.heap_setCell w p u g hp).trans h
theorem Blk.below {w w':World} {g B:Nat} {t:TypeId} {cs:Array Value} (h:Blk w g t cs) (hb:Below B w w') (hB:w.heap.size≤B):Blk w' g t cs:=(hb.block g (Nat.lt_of_lt_of_le h.lt hB)).trans h
theorem Blk.put {w:World} {g:Nat} {t:TypeId} {u v:Value} (h:Blk w g t #[u,v]) (a b:Value):Blk ((w.setCell ⟨g,0,none⟩ a).setCell ⟨g,1,none⟩ b) g t #[a,b]:=(h.set_ 0 a).set_ 1 b
theorem Blk.away {w:World} {g k:Nat} {t:TypeId} {cs:Array Value} (h:Blk w g t cs) (hne:g≠k) (a b:Value):Blk ((w.setCell ⟨k,0,none⟩ a).setCell ⟨k,1,none⟩ b) g t cs:=(h.far hne a).far hne b
def IB (w:World) (g:Nat):Prop:=∃n A l c t,w.heap[g]? =some (.cells #[.bool n,.slice A l c] t (0,0))
theorem IB.lt {w:World} {g:Nat} (h:IB w g):g<w.heap.size:=by
 obtain ⟨n,A,l,c,t,h⟩:=h;exact (Array.getElem?_eq_some_iff.1 h).1
theorem Blk.ib {w:World} {g:Nat} {t:TypeId} {n:Bool} {A:Option Addr} {l c:Nat} (h:Blk w g t #[.bool n,.slice A l c]):IB w g:=⟨n,A,l,c,t,h⟩
theorem IB.drew {w:World} {g:Nat} (h:IB w g):IB w.drew g:=h
theorem IB.new (w:World) (n:Bool) (A:Option Addr) (l c t:Nat):IB (w.alloc (.cells #[.bool n,.slice A l c] t)) w.heap.size:=⟨n,A,l,c,t,heap_alloc_new w _⟩
theorem IB.alloc {w:World} {g:Nat} (h:IB w g) (o:Obj):IB (w.alloc o) g:=by
 have hl:=h.lt;obtain ⟨n,A,l,c,t,h⟩:=h;exact ⟨n,A,l,c,t,(Below.heap_alloc w o g hl).trans h⟩
theorem IB.below {w w':World} {g B:Nat} (h:IB w g) (hb:Below B w w') (hB:w.heap.size≤B):IB w' g:=by
 have hl:=h.lt;obtain ⟨n,A,l,c,t,h⟩:=h;exact ⟨n,A,l,c,t,(hb.block g (Nat.lt_of_lt_of_le hl hB)).trans h⟩
theorem IB.cell {w:World} {g o d:Nat} (h:IB w g) (hc:w.cell? ⟨g,o,none⟩=some (.int .u32 d)):False:=by
 obtain ⟨n,A,l,c,t,h⟩:=h;rw[cell_of_row w g o _ t (0,0) h]at hc;match o,hc with
 |0,hc=>simp at hc
 |1,hc=>simp at hc
 |o+2,hc=>simp at hc
theorem IB.set0 {w:World} {g:Nat} (h:IB w g) (m:Bool):IB (w.setCell ⟨g,0,none⟩ (.bool m)) g:=by
 obtain ⟨n,A,l,c,t,h⟩:=h;exact ⟨m,A,l,c,t,by simp[World.setCell,Array.getElem?_modify,h]⟩
theorem Rd.box {w:World} {A:Option Addr} {c g:Nat} {xs:List Nat} (h:Rd w A c xs) (hg:IB w g) (i:Nat) (u:Value):Rd (w.setCell ⟨g,i,none⟩ u) A c xs:=by
 refine ⟨h.room,h.cap,h.ok,fun hn=> ?_⟩;obtain ⟨b,o,hA,hlt,hc⟩:=h.at_ hn;refine ⟨b,o,hA,by simpa[World.setCell]using hlt,fun j hj=> ?_⟩;have hne:b≠g:=by
  rintro rfl;exact hg.cell (hc 0 (List.length_pos_iff.2 hn))
 rw[World.cell?_of_block (Below.heap_setCell w ⟨g,i,none⟩ u b hne)];exact hc j hj
theorem Rd.put {w:World} {A:Option Addr} {c g:Nat} {xs:List Nat} (h:Rd w A c xs) (hg:IB w g) (n:Bool) (u:Value):Rd ((w.setCell ⟨g,0,none⟩ (.bool n)).setCell ⟨g,1,none⟩ u) A c xs:=(h.box hg 0 _).box (hg.set0 n) 1 u
theorem below_put {w0 w:World} {B g:Nat} (h:Below B w0 w) (hg:B≤g) (u v:Value):Below B w0 ((w.setCell ⟨g,0,none⟩ u).setCell ⟨g,1,none⟩ v):=(h.setCell hg _).setCell hg _
theorem Rd.turn {w w':World} {A:Option Addr} {c g:Nat} {xs:List Nat} (h:Rd w A c xs) (hg:w.grownBy w' (some g)) (hi:IB w g):Rd w' A c xs:=by
 refine ⟨h.room,h.cap,h.ok,fun hn=> ?_⟩;obtain ⟨b,o,hA,hlt,hc⟩:=h.at_ hn;refine ⟨b,o,hA,Nat.lt_of_lt_of_le hlt hg.size,fun j hj=> ?_⟩;have hne:b≠g:=by
  rintro rfl;exact hi.cell (hc 0 (List.length_pos_iff.2 hn))
 rw[World.cell?_of_block (hg.block b hlt (fun e=>hne (by injection e)))];exact hc j hj
theorem Blk.turn {w w':World} {g k:Nat} {t:TypeId} {cs:Array Value} (h:Blk w g t cs) (hg:w.grownBy w' (some k)) (hne:g≠k):Blk w' g t cs:=(hg.block g h.lt (fun e=>hne (by injection e))).trans h
theorem setRow_grown (w:World) (g:Nat) (cs:Array Value):w.grownBy (w.setRow g cs) (some g):=
 ⟨rfl,rfl,rfl,by simp[World.setRow],fun k _ hne=>by
  have hk:g≠k:=fun e=>hne (by rw[e]);simp[World.setRow,Array.getElem?_modify,hk]⟩
theorem Blk.row {w:World} {g:Nat} {t:TypeId} {cs:Array Value} (h:Blk w g t cs) (ds:Array Value):Blk (w.setRow g ds) g t ds:=by
 unfold Blk at h⊢;simp[World.setRow,Array.getElem?_modify,h]
abbrev zS5:Array Value:= #[.slice none 0 0,.int .i64 0,.int .i64 0,.int .i64 0,.int .i64 0]
abbrev zI8:Array Value:= #[.int .i64 0,.string ⟨#[]⟩,.bool false,.slice none 0 0,.int .i64 0,.bool false,.slice none 0 0,.int .i64 0]
abbrev cS5 (A:Option Addr) (l c i:Nat) (n a e:Int):Array Value:= #[.slice A l c,.int .i64 i,.int .i64 n,.int .i64 a,.int .i64 e]
theorem wp_put {ops:Array Oper} {rest:List Oper} {o:Oper} {a:Act} {Q:Exit→Act→World→Prop} {ty:TypeId} (x y:Operand) {w:World} {g:Nat} {t:TypeId} {old cs:Array Value} (hb:Blk w g t old) (hgd:o.guard=none) (ho:o.op= .store ty x y) (hx:a.eval x= .pointer (some ⟨g,0,none⟩)) (hy:a.eval y= .agg cs) (hi:(Tryz.prog.info? ty).map (·.size)=some cs.size) (hs:old.size=cs.size) (h1:cs.toList.all (·.oneCell')=true) (K:∀w',Blk w' g t cs→w.grownBy w' (some g)→wpList Tryz.prog ops Q rest (a.put o.dst undef) w'):wpList Tryz.prog ops Q (o::rest) a w:=
 wpList_store_row hgd ty x y ho g cs hx hy t old hb hi hs (by rw[←Array.all_toList];exact h1) (K _ (hb.row cs) (setRow_grown w g cs))
theorem wp_put2 {ops:Array Oper} {rest:List Oper} {a:Act} {Q:Exit→Act→World→Prop} {ty ty2:TypeId} {pos:String} {aft:Array Edge} {gd:Option (Nat×Bool)} (x y:Operand) {w:World} {g:Nat} {t:TypeId} {old cs:Array Value} (hb:Blk w g t old) (hgd:gd=none) (ho:ty=ty) (hx:a.eval x= .pointer (some ⟨g,0,none⟩)) (hy:a.eval y= .agg cs) (hi:(Tryz.prog.info? ty).map (·.size)=some cs.size) (hs:old.size=cs.size) (h1:cs.toList.all (·.oneCell')=true) (K:∀w',Blk w' g t cs→w.grownBy w' (some g)→wpList Tryz.prog ops Q rest (a.put none undef) w'):wpList Tryz.prog ops Q (⟨none,.store ty x y,ty2,pos,aft,gd⟩::rest) a w:=
 wp_put (o:=⟨none,.store ty x y,ty2,pos,aft,gd⟩) x y hb hgd rfl hx hy hi hs h1 K
theorem st_ {P:Program} {ops:Array Oper} {rest:List Oper} {a:Act} {Q:Exit→Act→World→Prop} {ty ty2:TypeId} {pos:String} {aft:Array Edge} {gd:Option (Nat×Bool)} {x y:Operand} {w:World}
 (h:wpList P ops Q (⟨none,.store ty x y,ty2,pos,aft,gd⟩::rest) a w):wpList P ops Q (⟨none,.store ty x y,ty2,pos,aft,gd⟩::rest) a w:=h
theorem info_rint:(Tryz.prog.info? 131).map (·.size)=some 2:=by kernel_rfl
theorem Blk.both {w:World} {g:Nat} {t:TypeId} {u v:Value} (h:Blk w g t #[u,v]):w.cell? ⟨g,0,none⟩=some u∧w.cell? ⟨g,1,none⟩=some v∧w.frozen? ⟨g,0,none⟩=false∧w.frozen? ⟨g,1,none⟩=false:=
 ⟨(h.cell 0).trans rfl,(h.cell 1).trans rfl,h.frozen 0,h.frozen 1⟩
end Go.Proofs.YtjlhjabgclflcaaGreatDoor
namespace Go.Proofs.YtjlhjabgclflcaaGreatDoor
open Go.RowKit Num
theorem below_trans {w w1 w2:World} (h:Below w.heap.size w w1) (h2:Below w1.heap.size w1 w2):Below w.heap.size w w2:=h.trans (h2.mono h.size)
theorem IB.at_ {w:World} {g:Nat} {n:Bool} {A:Option Addr} {l c t:Nat} (h:g=w.heap.size):IB (w.alloc (.cells #[.bool n,.slice A l c] t)) g:=by subst h;exact IB.new ..
theorem snegR_eq {n:Bool} {xs:List Nat} (ho:Ok xs) (h:sright n xs=true):snegR n xs=(!n&&decide (xs≠[]),xs,0):=by
 unfold snegR;rw[if_pos h];unfold sok;rw[sD_neg,sv_dig ho h];refine Prod.ext ?_ rfl;show sN (-(sv n xs))=_;cases n
 ·by_cases hx:xs=[]
  ·subst hx;simp[sv,sN,val]
  ·have:=val_pos_right ho (sright_rightB h) hx;simp[sv,sN,hx];omega
 ·simp[sv,sN]
theorem snegR_no {n:Bool} {xs:List Nat} (h:sright n xs=false):snegR n xs=(false,[],2):=by unfold snegR;rw[h];rfl
theorem RetI.put {w w1 w2:World} {e:Ending} {r:R3} {g:Nat} (h:RetI w1 w2 e r) (hb:Below w.heap.size w w1) (hg:w.heap.size≤g) (hi:IB w1 g):∃A c,e= .returned (.tuple #[iv r.1 A r.2.1.length c,.int .i64 r.2.2])∧(∀u v,Rd ((w2.setCell ⟨g,0,none⟩ (.bool u)).setCell ⟨g,1,none⟩ v) A c r.2.1)∧∀u v,Below w.heap.size w ((w2.setCell ⟨g,0,none⟩ u).setCell ⟨g,1,none⟩ v):=by
 obtain ⟨⟨A,c,rfl,hr⟩,hb2⟩:=h;exact ⟨A,c,rfl,fun u v=>hr.put (hi.below hb2 (Nat.le_refl _)) u v,fun u v=>below_put (below_trans hb hb2) hg u v⟩
end Go.Proofs.YtjlhjabgclflcaaGreatDoor
set_option linter.unusedSimpArgs false
set_option linter.unusedVariables false
namespace Go.Proofs.YtjlhjabgclflcaaGreatDoor
open Go.RowKit Num
end Go.Proofs.YtjlhjabgclflcaaGreatDoor
namespace Go.Proofs.YtjlhjabgclflcaaGreatDoor
open Go.RowKit Num
theorem sd_pos {z:Int} (h:0≤z):sN z=false∧sD z=dig z.toNat:=by
 unfold sN sD;exact ⟨by simpa using h,by congr 1;omega⟩
theorem sd_neg {z:Int} (h:z<0):sN z=true∧sD z=dig (-z).toNat:=by
 unfold sN sD;exact ⟨by simpa using h,by congr 1;omega⟩
theorem ssmallR_no {n:Bool} {xs:List Nat} (h:sright n xs=false):ssmallR n xs=(0,2):=by unfold ssmallR;rw[h];rfl
theorem ssmallR_eq {n:Bool} {xs:List Nat} (h:sright n xs=true):ssmallR n xs=if-9223372036854775808≤sv n xs∧sv n xs<9223372036854775808 then (sv n xs,0) else (0,4):=by unfold ssmallR;rw[h];rfl
theorem val_two {xs:List Nat} (ho:Ok xs) (h:xs.length≤2):val xs<18446744073709551616:=Nat.lt_of_lt_of_le (val_lt ho) (Nat.le_trans (Nat.pow_le_pow_right (by decide) h) (by decide))
theorem val_three {xs:List Nat} (ho:Ok xs) (h:rightB xs=true) (hl:¬xs.length≤2):18446744073709551616≤val xs:=by
 refine Nat.le_of_not_lt (fun hlt=>hl ?_);have:=dig_length_le (n:=val xs) (k:=2) hlt;rwa[right_dig ho h]at this
end Go.Proofs.YtjlhjabgclflcaaGreatDoor
namespace Go.Proofs.YtjlhjabgclflcaaGreatDoor
open Go.RowKit Num
theorem sN_nat (n:Bool) (k:Nat):sN (if n then-(k:Int) else k)=(n&&decide (dig k≠[])):=congrArg (·.1) (madeR_dig n k).symm
end Go.Proofs.YtjlhjabgclflcaaGreatDoor
set_option linter.unusedSimpArgs false
set_option linter.unusedVariables false
namespace Go.Proofs.YtjlhjabgclflcaaGreatDoor
open Go.RowKit Num
theorem Rd.inj {w:World} {A:Option Addr} {c d:Nat} {xs ys:List Nat} (h:Rd w A c xs) (h':Rd w A d ys) (hl:xs.length=ys.length):xs=ys:=by
 refine List.ext_getElem hl (fun i h1 h2=> ?_);obtain ⟨b,o,hA,_,hc⟩:=h.at_ (by rintro rfl;simp at h1);obtain ⟨b',o',hA',_,hc'⟩:=h'.at_ (by rintro rfl;simp at h2);rw[hA]at hA';injection hA' with e;injection e with e1 e2 _;subst e1 e2;have e3:=(hc i h1).symm.trans (hc' i h2);injection e3 with e3;injection e3 with _ e3;exact_mod_cast e3
end Go.Proofs.YtjlhjabgclflcaaGreatDoor
namespace Go.Proofs.YtjlhjabgclflcaaGreatDoor
open Go.RowKit Num
end Go.Proofs.YtjlhjabgclflcaaGreatDoor
namespace Go.Proofs.YtjlhjabgclflcaaGreatDoor
open Go.RowKit Num
end Go.Proofs.YtjlhjabgclflcaaGreatDoor
set_option linter.unusedSimpArgs false
set_option linter.unusedVariables false
namespace Go.Proofs.YtjlhjabgclflcaaGreatDoor
open Go.RowKit Num
theorem rmade_any (neg:Bool) (A:Option Addr) (c:Nat) (xs:List Nat) (w:World) (ha:Rd w A c xs):Calls Tryz.prog 114 #[.bool neg,.slice A xs.length c] w fun e w'=>e= .returned (iv (neg&&decide (xs≠[])) A xs.length c)∧Below w.heap.size w w':=by
 have hl:=ha.len;by_cases hx:xs=[]
 ·subst hx;go_enter Tryz.func114,Tryz.ntmps114;cases neg
  ·go_wp2;exact bodyPost_ret (v:=iv false A 0 c) (by simp[results,Tryz.results114,go_sem]) rfl ⟨rfl,below_alloc1 _ _⟩
  ·go_wp2;exact bodyPost_ret (v:=iv false A 0 c) (by simp[results,Tryz.results114,go_sem]) rfl ⟨rfl,below_alloc1 _ _⟩
 ·have h1:0<xs.length:=List.length_pos_iff.2 hx;have HE:=Lib.hid (decide_eq_true hx);clear hx;go_enter Tryz.func114,Tryz.ntmps114;cases neg
  ·go_wp2;exact bodyPost_ret (v:=iv false A xs.length c) (by simp[results,Tryz.results114,go_sem]) rfl ⟨rfl,below_alloc1 _ _⟩
  ·go_wp2;rw[HE.out];exact bodyPost_ret (v:=iv true A xs.length c) (by simp[results,Tryz.results114,go_sem]) rfl ⟨rfl,below_alloc1 _ _⟩
def strip (n:Bool) (xs:List Nat):Bool×List Nat:=(n&&decide (xs≠[]),xs)
end Go.Proofs.YtjlhjabgclflcaaGreatDoor
namespace Go.Proofs.YtjlhjabgclflcaaGreatDoor
open Go.RowKit Num
def zn (n:Bool) (k:Nat):Int:=if n then-(k:Int) else k
theorem strip_dig (n:Bool) (k:Nat):strip n (dig k)=(sN (zn n k),sD (zn n k)):=by
 unfold strip zn;rw[sN_nat,sD_of]
theorem zn_same (n:Bool) (x y:Nat):zn n x+zn n y=zn n (x+y):=by
 unfold zn;cases n<;>simp<;>omega
theorem zn_less {n m:Bool} {x y:Nat} (h:(n==m)=false) (hl:x<y):zn n x+zn m y=zn m (y-x):=by
 unfold zn;cases n<;>cases m<;>simp at h⊢ <;>omega
theorem zn_more {n m:Bool} {x y:Nat} (h:(n==m)=false) (hl:¬x<y):zn n x+zn m y=zn n (x-y):=by
 unfold zn;cases n<;>cases m<;>simp at h⊢ <;>omega
theorem zn_mul (n m:Bool) (x y:Nat):zn n x*zn m y=zn (n !=m) (x*y):=by
 unfold zn;cases n<;>cases m<;>simp[Int.mul_neg,Int.neg_mul]
theorem plus_eq {A B:Option Addr} {c d x y:Nat} {xs ys:List Nat} {w:World} (h1:xs=dig x) (h2:ys=dig y) (ha:Rd w A c xs) (hb:Rd w B d ys) (hs:xs.length≤10000) (ht:ys.length≤10000):Calls Tryz.prog 115 #[.slice A xs.length c,.slice B ys.length d] w fun e w'=>RetS w w' e (dig (x+y)):=by
 subst h1 h2;have h:=plus_any A B c d _ _ w ha hb (by omega) (by omega);rw[val_dig,val_dig]at h;exact h
theorem product_eq {A B:Option Addr} {c d x y:Nat} {xs ys:List Nat} {w:World} (h1:xs=dig x) (h2:ys=dig y) (ha:Rd w A c xs) (hb:Rd w B d ys) (hs:xs.length≤10000) (ht:ys.length≤10000):Calls Tryz.prog 118 #[.slice A xs.length c,.slice B ys.length d] w fun e w'=>RetS w w' e (dig (x*y)):=by
 subst h1 h2;have h:=product_any A B c d _ _ w ha hb (by omega) (by omega);rw[val_dig,val_dig]at h;exact h
theorem minus_eq {A B:Option Addr} {c d x y:Nat} {xs ys:List Nat} {w:World} (h1:xs=dig x) (h2:ys=dig y) (ha:Rd w A c xs) (hb:Rd w B d ys) (hs:xs.length≤10000) (ht:ys.length≤10000)(hle:y≤x):Calls Tryz.prog 117 #[.slice A xs.length c,.slice B ys.length d] w fun e w'=>RetS w w' e (dig (x-y)):=by
 subst h1 h2;have h:=minus_any A B c d _ _ w ha hb (by omega) (dig_len_mono hle) (by rw[val_dig,val_dig];exact hle);rw[val_dig,val_dig]at h;exact h
theorem less_eq {A B:Option Addr} {c d x y:Nat} {xs ys:List Nat} {w:World} (h1:xs=dig x) (h2:ys=dig y) (ha:Rd w A c xs) (hb:Rd w B d ys) (hs:xs.length≤10000) (ht:ys.length≤10000):Calls Tryz.prog 116 #[.slice A xs.length c,.slice B ys.length d] w fun e w'=>e= .returned (.bool (decide (x<y)))∧Read w w':=by
 subst h1 h2;exact less_any A B c d x y w ha hb (by omega) (by omega)
theorem rsum_any (n m:Bool) (A B:Option Addr) (c d x y:Nat) (w:World) (ha:Rd w A c (dig x)) (hb:Rd w B d (dig y)) (hx:(dig x).length≤10000) (hy:(dig y).length≤10000):Calls Tryz.prog 82 #[iv n A (dig x).length c,iv m B (dig y).length d] w fun e w'=>RetN w w' e (sN (zn n x+zn m y),sD (zn n x+zn m y)):=by
 obtain ⟨xs,hxs⟩:∃xs,xs=dig x:=⟨_,rfl⟩;obtain ⟨ys,hys⟩:∃ys,ys=dig y:=⟨_,rfl⟩;rw[←hxs]at ha hx⊢;rw[←hys]at hb hy⊢;have HX:=Lib.hid hxs;have HY:=Lib.hid hys;clear hxs hys;rcases Bool.eq_false_or_eq_true (n==m) with hnm|hnm
 ·have HN:Hid (m=n):=by unfold Hid;cases n<;>cases m<;>simp at hnm⊢
  have ha0:=((ha.alloc (.cells #[.bool n,.slice A xs.length c] 131)).alloc (.cells #[.bool (m),.slice B ys.length d] 131)).alloc (.cells #[.bool false,.slice none 0 0] 131);have hy0:=((hb.alloc (.cells #[.bool n,.slice A xs.length c] 131)).alloc (.cells #[.bool (m),.slice B ys.length d] 131)).alloc (.cells #[.bool false,.slice none 0 0] 131);have hb0:=below_alloc (below_alloc (below_alloc1 w (.cells #[.bool n,.slice A xs.length c] 131)) (Nat.le_refl _) (.cells #[.bool (m),.slice B ys.length d] 131)) (Nat.le_refl _) (.cells #[.bool false,.slice none 0 0] 131);have k1:Blk (((w.alloc (.cells #[.bool n,.slice A xs.length c] 131)).alloc (.cells #[.bool (m),.slice B ys.length d] 131)).alloc (.cells #[.bool false,.slice none 0 0] 131)) w.heap.size _ _:=((Blk.new w 131 #[.bool n,.slice A xs.length c]).alloc _).alloc _;have k2:Blk (((w.alloc (.cells #[.bool n,.slice A xs.length c] 131)).alloc (.cells #[.bool (m),.slice B ys.length d] 131)).alloc (.cells #[.bool false,.slice none 0 0] 131)) (w.heap.size+1) _ _:=(Blk.at_ (by simp)).alloc _;have k4:Blk (((w.alloc (.cells #[.bool n,.slice A xs.length c] 131)).alloc (.cells #[.bool (m),.slice B ys.length d] 131)).alloc (.cells #[.bool false,.slice none 0 0] 131)) (w.heap.size+1+1) _ _:=Blk.at_ (by simp);go_enter Tryz.func82,Tryz.ntmps82;go_wp2_with fail;generalize ((w.alloc (.cells #[.bool n,.slice A xs.length c] 131)).alloc (.cells #[.bool (m),.slice B ys.length d] 131)).alloc (.cells #[.bool false,.slice none 0 0] 131)=w2 at*;obtain ⟨v1,v2,_,_⟩:=k1.both;obtain ⟨v3,v4,_,_⟩:=k2.both;go_region_held3 (fun w'=>w'.cell? ⟨w.heap.size,0,none⟩=some (.bool n)∧w'.cell? ⟨w.heap.size,1,none⟩=some (.slice A xs.length c)∧w'.cell? ⟨w.heap.size+1,0,none⟩=some (.bool (m))∧w'.cell? ⟨w.heap.size+1,1,none⟩=some (.slice B ys.length d)) (first|exact ⟨v5,v6,v7,v8⟩|exact ⟨v9,v10,v11,v12⟩|exact ⟨(o1.away (by omega) _ _).both.1,(o1.away (by omega) _ _).both.2.1,(o2.away (by omega) _ _).both.1,(o2.away (by omega) _ _).both.2.1⟩|go_keep)
   (first|(go_at_call 115;refine (plus_eq HX.out HY.out ha0.drew hy0.drew (by omega) (by omega)).mono ?_;rintro e w3 ⟨⟨A3,c3,rfl,hr3⟩,hb3⟩;obtain ⟨v5,v6,_,_⟩:=(k1.drew.below hb3 (Nat.le_refl _)).both;obtain ⟨v7,v8,_,_⟩:=(k2.drew.below hb3 (Nat.le_refl _)).both)|(go_at_call 114;refine (rmade_any (n) A3 c3 (dig (x+y)) w3 hr3).mono ?_;generalize hsq:((n)&&decide ((dig (x+y))≠[]))=sq;have HSQ:=Lib.hid hsq;clear hsq;rintro e w4 ⟨rfl,hb4⟩;have o1:=(k1.drew.below hb3 (Nat.le_refl _)).below hb4 (Nat.le_refl _);have o2:=(k2.drew.below hb3 (Nat.le_refl _)).below hb4 (Nat.le_refl _);have o4:=(k4.drew.below hb3 (Nat.le_refl _)).below hb4 (Nat.le_refl _);obtain ⟨v9,v10,_,_⟩:=o1.both;obtain ⟨v11,v12,_,_⟩:=o2.both;obtain ⟨f1,f2,f3,f4⟩:=o4.both))
  rename_i hHeld;clear hHeld v1 v2 v3 v4 v5 v6 v7 v8 v9 v10 v11 v12 f1 f2 f3 f4;have hr4:=(hr3.below hb4 (Nat.le_refl _)).put o4.ib sq (.slice A3 (dig (x+y)).length c3);have hbel:=below_put (below_trans (below_trans (hb0.trans ((Read.refl w2).drew.below _)) hb3) hb4) (by omega) (.bool sq) (.slice A3 (dig (x+y)).length c3) (g:=w.heap.size+1+1);obtain ⟨u1,u2,_,_⟩:=(o4.put (.bool sq) (.slice A3 (dig (x+y)).length c3)).both;clear o1 o2 o4 k1 k2 k4 hb3 hb4 hr3;go_wp2;refine bodyPost_ret (v:=iv sq A3 (dig (x+y)).length c3) (by simp[results,Tryz.results82,go_sem,u1,u2]) rfl ?_;have e:strip (n) (dig (x+y))=(sq,dig (x+y)):=by unfold strip;rw[HSQ.out]
  rw[(by rw[HN.out,zn_same]:zn n x+zn m y=zn n (x+y)),←strip_dig,e];exact ⟨⟨A3,c3,rfl,hr4⟩,hbel⟩
 ·have HN:=Lib.hid hnm;by_cases hlt:x<y
  ·have HL:=Lib.hid hlt;have HD:=Lib.hid (decide_eq_true hlt);clear hlt;have ha0:=((ha.alloc (.cells #[.bool n,.slice A xs.length c] 131)).alloc (.cells #[.bool (m),.slice B ys.length d] 131)).alloc (.cells #[.bool false,.slice none 0 0] 131);have hy0:=((hb.alloc (.cells #[.bool n,.slice A xs.length c] 131)).alloc (.cells #[.bool (m),.slice B ys.length d] 131)).alloc (.cells #[.bool false,.slice none 0 0] 131);have hb0:=below_alloc (below_alloc (below_alloc1 w (.cells #[.bool n,.slice A xs.length c] 131)) (Nat.le_refl _) (.cells #[.bool (m),.slice B ys.length d] 131)) (Nat.le_refl _) (.cells #[.bool false,.slice none 0 0] 131);have k1:Blk (((w.alloc (.cells #[.bool n,.slice A xs.length c] 131)).alloc (.cells #[.bool (m),.slice B ys.length d] 131)).alloc (.cells #[.bool false,.slice none 0 0] 131)) w.heap.size _ _:=((Blk.new w 131 #[.bool n,.slice A xs.length c]).alloc _).alloc _;have k2:Blk (((w.alloc (.cells #[.bool n,.slice A xs.length c] 131)).alloc (.cells #[.bool (m),.slice B ys.length d] 131)).alloc (.cells #[.bool false,.slice none 0 0] 131)) (w.heap.size+1) _ _:=(Blk.at_ (by simp)).alloc _;have k4:Blk (((w.alloc (.cells #[.bool n,.slice A xs.length c] 131)).alloc (.cells #[.bool (m),.slice B ys.length d] 131)).alloc (.cells #[.bool false,.slice none 0 0] 131)) (w.heap.size+1+1) _ _:=Blk.at_ (by simp);go_enter Tryz.func82,Tryz.ntmps82;go_wp2_with fail;generalize ((w.alloc (.cells #[.bool n,.slice A xs.length c] 131)).alloc (.cells #[.bool m,.slice B ys.length d] 131)).alloc (.cells #[.bool false,.slice none 0 0] 131)=w2 at*;refine (less_eq HX.out HY.out ha0 hy0 (by omega) (by omega)).mono ?_;rintro e w2' ⟨rfl,kk,rfl⟩;rw[HD.out];replace ha0:=ha0.drewN kk;replace hy0:=hy0.drewN kk;replace hb0:=hb0.trans ((Read.refl w2).drewN kk|>.below _);replace k1:=k1.drewN kk;replace k2:=k2.drewN kk;replace k4:=k4.drewN kk;generalize w2.drewN kk=w2 at*;obtain ⟨v1,v2,_,_⟩:=k1.both;obtain ⟨v3,v4,_,_⟩:=k2.both;go_wp2_with fail;go_region_held3 (fun w'=>w'.cell? ⟨w.heap.size,0,none⟩=some (.bool n)∧w'.cell? ⟨w.heap.size,1,none⟩=some (.slice A xs.length c)∧w'.cell? ⟨w.heap.size+1,0,none⟩=some (.bool (m))∧w'.cell? ⟨w.heap.size+1,1,none⟩=some (.slice B ys.length d)) (first|exact ⟨v5,v6,v7,v8⟩|exact ⟨v9,v10,v11,v12⟩|exact ⟨(o1.away (by omega) _ _).both.1,(o1.away (by omega) _ _).both.2.1,(o2.away (by omega) _ _).both.1,(o2.away (by omega) _ _).both.2.1⟩|go_keep)
    (first|(go_at_call 117;refine (minus_eq HY.out HX.out hy0.drew ha0.drew (by omega) (by omega) (Nat.le_of_lt HL.out)).mono ?_;rintro e w3 ⟨⟨A3,c3,rfl,hr3⟩,hb3⟩;obtain ⟨v5,v6,_,_⟩:=(k1.drew.below hb3 (Nat.le_refl _)).both;obtain ⟨v7,v8,_,_⟩:=(k2.drew.below hb3 (Nat.le_refl _)).both)|(go_at_call 114;refine (rmade_any (m) A3 c3 (dig (y-x)) w3 hr3).mono ?_;generalize hsq:((m)&&decide ((dig (y-x))≠[]))=sq;have HSQ:=Lib.hid hsq;clear hsq;rintro e w4 ⟨rfl,hb4⟩;have o1:=(k1.drew.below hb3 (Nat.le_refl _)).below hb4 (Nat.le_refl _);have o2:=(k2.drew.below hb3 (Nat.le_refl _)).below hb4 (Nat.le_refl _);have o4:=(k4.drew.below hb3 (Nat.le_refl _)).below hb4 (Nat.le_refl _);obtain ⟨v9,v10,_,_⟩:=o1.both;obtain ⟨v11,v12,_,_⟩:=o2.both;obtain ⟨f1,f2,f3,f4⟩:=o4.both))
   rename_i hHeld;clear hHeld v1 v2 v3 v4 v5 v6 v7 v8 v9 v10 v11 v12 f1 f2 f3 f4;have hr4:=(hr3.below hb4 (Nat.le_refl _)).put o4.ib sq (.slice A3 (dig (y-x)).length c3);have hbel:=below_put (below_trans (below_trans (hb0.trans ((Read.refl w2).drew.below _)) hb3) hb4) (by omega) (.bool sq) (.slice A3 (dig (y-x)).length c3) (g:=w.heap.size+1+1);obtain ⟨u1,u2,_,_⟩:=(o4.put (.bool sq) (.slice A3 (dig (y-x)).length c3)).both;clear o1 o2 o4 k1 k2 k4 hb3 hb4 hr3;go_wp2;refine bodyPost_ret (v:=iv sq A3 (dig (y-x)).length c3) (by simp[results,Tryz.results82,go_sem,u1,u2]) rfl ?_;have e:strip (m) (dig (y-x))=(sq,dig (y-x)):=by unfold strip;rw[HSQ.out]
   rw[(zn_less HN.out HL.out),←strip_dig,e];exact ⟨⟨A3,c3,rfl,hr4⟩,hbel⟩
  ·have HL:=Lib.hid hlt;have HD:=Lib.hid (decide_eq_false hlt);clear hlt;have ha0:=((ha.alloc (.cells #[.bool n,.slice A xs.length c] 131)).alloc (.cells #[.bool (m),.slice B ys.length d] 131)).alloc (.cells #[.bool false,.slice none 0 0] 131);have hy0:=((hb.alloc (.cells #[.bool n,.slice A xs.length c] 131)).alloc (.cells #[.bool (m),.slice B ys.length d] 131)).alloc (.cells #[.bool false,.slice none 0 0] 131);have hb0:=below_alloc (below_alloc (below_alloc1 w (.cells #[.bool n,.slice A xs.length c] 131)) (Nat.le_refl _) (.cells #[.bool (m),.slice B ys.length d] 131)) (Nat.le_refl _) (.cells #[.bool false,.slice none 0 0] 131);have k1:Blk (((w.alloc (.cells #[.bool n,.slice A xs.length c] 131)).alloc (.cells #[.bool (m),.slice B ys.length d] 131)).alloc (.cells #[.bool false,.slice none 0 0] 131)) w.heap.size _ _:=((Blk.new w 131 #[.bool n,.slice A xs.length c]).alloc _).alloc _;have k2:Blk (((w.alloc (.cells #[.bool n,.slice A xs.length c] 131)).alloc (.cells #[.bool (m),.slice B ys.length d] 131)).alloc (.cells #[.bool false,.slice none 0 0] 131)) (w.heap.size+1) _ _:=(Blk.at_ (by simp)).alloc _;have k4:Blk (((w.alloc (.cells #[.bool n,.slice A xs.length c] 131)).alloc (.cells #[.bool (m),.slice B ys.length d] 131)).alloc (.cells #[.bool false,.slice none 0 0] 131)) (w.heap.size+1+1) _ _:=Blk.at_ (by simp);go_enter Tryz.func82,Tryz.ntmps82;go_wp2_with fail;generalize ((w.alloc (.cells #[.bool n,.slice A xs.length c] 131)).alloc (.cells #[.bool m,.slice B ys.length d] 131)).alloc (.cells #[.bool false,.slice none 0 0] 131)=w2 at*;refine (less_eq HX.out HY.out ha0 hy0 (by omega) (by omega)).mono ?_;rintro e w2' ⟨rfl,kk,rfl⟩;rw[HD.out];replace ha0:=ha0.drewN kk;replace hy0:=hy0.drewN kk;replace hb0:=hb0.trans ((Read.refl w2).drewN kk|>.below _);replace k1:=k1.drewN kk;replace k2:=k2.drewN kk;replace k4:=k4.drewN kk;generalize w2.drewN kk=w2 at*;obtain ⟨v1,v2,_,_⟩:=k1.both;obtain ⟨v3,v4,_,_⟩:=k2.both;go_wp2_with fail;go_region_held3 (fun w'=>w'.cell? ⟨w.heap.size,0,none⟩=some (.bool n)∧w'.cell? ⟨w.heap.size,1,none⟩=some (.slice A xs.length c)∧w'.cell? ⟨w.heap.size+1,0,none⟩=some (.bool (m))∧w'.cell? ⟨w.heap.size+1,1,none⟩=some (.slice B ys.length d)) (first|exact ⟨v5,v6,v7,v8⟩|exact ⟨v9,v10,v11,v12⟩|exact ⟨(o1.away (by omega) _ _).both.1,(o1.away (by omega) _ _).both.2.1,(o2.away (by omega) _ _).both.1,(o2.away (by omega) _ _).both.2.1⟩|go_keep)
    (first|(go_at_call 117;refine (minus_eq HX.out HY.out ha0.drew hy0.drew (by omega) (by omega) (Nat.le_of_not_lt HL.out)).mono ?_;rintro e w3 ⟨⟨A3,c3,rfl,hr3⟩,hb3⟩;obtain ⟨v5,v6,_,_⟩:=(k1.drew.below hb3 (Nat.le_refl _)).both;obtain ⟨v7,v8,_,_⟩:=(k2.drew.below hb3 (Nat.le_refl _)).both)|(go_at_call 114;refine (rmade_any (n) A3 c3 (dig (x-y)) w3 hr3).mono ?_;generalize hsq:((n)&&decide ((dig (x-y))≠[]))=sq;have HSQ:=Lib.hid hsq;clear hsq;rintro e w4 ⟨rfl,hb4⟩;have o1:=(k1.drew.below hb3 (Nat.le_refl _)).below hb4 (Nat.le_refl _);have o2:=(k2.drew.below hb3 (Nat.le_refl _)).below hb4 (Nat.le_refl _);have o4:=(k4.drew.below hb3 (Nat.le_refl _)).below hb4 (Nat.le_refl _);obtain ⟨v9,v10,_,_⟩:=o1.both;obtain ⟨v11,v12,_,_⟩:=o2.both;obtain ⟨f1,f2,f3,f4⟩:=o4.both))
   rename_i hHeld;clear hHeld v1 v2 v3 v4 v5 v6 v7 v8 v9 v10 v11 v12 f1 f2 f3 f4;have hr4:=(hr3.below hb4 (Nat.le_refl _)).put o4.ib sq (.slice A3 (dig (x-y)).length c3);have hbel:=below_put (below_trans (below_trans (hb0.trans ((Read.refl w2).drew.below _)) hb3) hb4) (by omega) (.bool sq) (.slice A3 (dig (x-y)).length c3) (g:=w.heap.size+1+1);obtain ⟨u1,u2,_,_⟩:=(o4.put (.bool sq) (.slice A3 (dig (x-y)).length c3)).both;clear o1 o2 o4 k1 k2 k4 hb3 hb4 hr3;go_wp2;refine bodyPost_ret (v:=iv sq A3 (dig (x-y)).length c3) (by simp[results,Tryz.results82,go_sem,u1,u2]) rfl ?_;have e:strip (n) (dig (x-y))=(sq,dig (x-y)):=by unfold strip;rw[HSQ.out]
   rw[(zn_more HN.out HL.out),←strip_dig,e];exact ⟨⟨A3,c3,rfl,hr4⟩,hbel⟩
end Go.Proofs.YtjlhjabgclflcaaGreatDoor
namespace Go.Proofs.YtjlhjabgclflcaaGreatDoor
open Go.RowKit Num
theorem rtimes_any (n m:Bool) (A B:Option Addr) (c d x y:Nat) (w:World) (ha:Rd w A c (dig x)) (hb:Rd w B d (dig y)) (hx:(dig x).length≤10000) (hy:(dig y).length≤10000):Calls Tryz.prog 83 #[iv n A (dig x).length c,iv m B (dig y).length d] w fun e w'=>RetN w w' e (sN (zn n x*zn m y),sD (zn n x*zn m y)):=by
 obtain ⟨xs,hxs⟩:∃xs,xs=dig x:=⟨_,rfl⟩;obtain ⟨ys,hys⟩:∃ys,ys=dig y:=⟨_,rfl⟩;rw[←hxs]at ha hx⊢;rw[←hys]at hb hy⊢;have HX:=Lib.hid hxs;have HY:=Lib.hid hys;clear hxs hys;have ha0:=((ha.alloc (.cells #[.bool n,.slice A xs.length c] 131)).alloc (.cells #[.bool (m),.slice B ys.length d] 131)).alloc (.cells #[.bool false,.slice none 0 0] 131);have hy0:=((hb.alloc (.cells #[.bool n,.slice A xs.length c] 131)).alloc (.cells #[.bool (m),.slice B ys.length d] 131)).alloc (.cells #[.bool false,.slice none 0 0] 131);have hb0:=below_alloc (below_alloc (below_alloc1 w (.cells #[.bool n,.slice A xs.length c] 131)) (Nat.le_refl _) (.cells #[.bool (m),.slice B ys.length d] 131)) (Nat.le_refl _) (.cells #[.bool false,.slice none 0 0] 131);have k1:Blk (((w.alloc (.cells #[.bool n,.slice A xs.length c] 131)).alloc (.cells #[.bool (m),.slice B ys.length d] 131)).alloc (.cells #[.bool false,.slice none 0 0] 131)) w.heap.size _ _:=((Blk.new w 131 #[.bool n,.slice A xs.length c]).alloc _).alloc _;have k2:Blk (((w.alloc (.cells #[.bool n,.slice A xs.length c] 131)).alloc (.cells #[.bool (m),.slice B ys.length d] 131)).alloc (.cells #[.bool false,.slice none 0 0] 131)) (w.heap.size+1) _ _:=(Blk.at_ (by simp)).alloc _;have k4:Blk (((w.alloc (.cells #[.bool n,.slice A xs.length c] 131)).alloc (.cells #[.bool (m),.slice B ys.length d] 131)).alloc (.cells #[.bool false,.slice none 0 0] 131)) (w.heap.size+1+1) _ _:=Blk.at_ (by simp);go_enter Tryz.func83,Tryz.ntmps83;go_wp2_with fail;generalize ((w.alloc (.cells #[.bool n,.slice A xs.length c] 131)).alloc (.cells #[.bool (m),.slice B ys.length d] 131)).alloc (.cells #[.bool false,.slice none 0 0] 131)=w2 at*;obtain ⟨v1,v2,_,_⟩:=k1.both;obtain ⟨v3,v4,_,_⟩:=k2.both;go_region_held3 (fun w'=>w'.cell? ⟨w.heap.size,0,none⟩=some (.bool n)∧w'.cell? ⟨w.heap.size,1,none⟩=some (.slice A xs.length c)∧w'.cell? ⟨w.heap.size+1,0,none⟩=some (.bool (m))∧w'.cell? ⟨w.heap.size+1,1,none⟩=some (.slice B ys.length d)) (first|exact ⟨v5,v6,v7,v8⟩|exact ⟨v9,v10,v11,v12⟩|exact ⟨(o1.away (by omega) _ _).both.1,(o1.away (by omega) _ _).both.2.1,(o2.away (by omega) _ _).both.1,(o2.away (by omega) _ _).both.2.1⟩|go_keep)
  (first|(go_at_call 118;refine (product_eq HX.out HY.out ha0.drew hy0.drew (by omega) (by omega)).mono ?_;rintro e w3 ⟨⟨A3,c3,rfl,hr3⟩,hb3⟩;obtain ⟨v5,v6,_,_⟩:=(k1.drew.below hb3 (Nat.le_refl _)).both;obtain ⟨v7,v8,_,_⟩:=(k2.drew.below hb3 (Nat.le_refl _)).both)|(go_at_call 114;refine (rmade_any (n !=m) A3 c3 (dig (x*y)) w3 hr3).mono ?_;generalize hsq:((n !=m)&&decide ((dig (x*y))≠[]))=sq;have HSQ:=Lib.hid hsq;clear hsq;rintro e w4 ⟨rfl,hb4⟩;have o1:=(k1.drew.below hb3 (Nat.le_refl _)).below hb4 (Nat.le_refl _);have o2:=(k2.drew.below hb3 (Nat.le_refl _)).below hb4 (Nat.le_refl _);have o4:=(k4.drew.below hb3 (Nat.le_refl _)).below hb4 (Nat.le_refl _);obtain ⟨v9,v10,_,_⟩:=o1.both;obtain ⟨v11,v12,_,_⟩:=o2.both;obtain ⟨f1,f2,f3,f4⟩:=o4.both))
 rename_i hHeld;clear hHeld v1 v2 v3 v4 v5 v6 v7 v8 v9 v10 v11 v12 f1 f2 f3 f4;have hr4:=(hr3.below hb4 (Nat.le_refl _)).put o4.ib sq (.slice A3 (dig (x*y)).length c3);have hbel:=below_put (below_trans (below_trans (hb0.trans ((Read.refl w2).drew.below _)) hb3) hb4) (by omega) (.bool sq) (.slice A3 (dig (x*y)).length c3) (g:=w.heap.size+1+1);obtain ⟨u1,u2,_,_⟩:=(o4.put (.bool sq) (.slice A3 (dig (x*y)).length c3)).both;clear o1 o2 o4 k1 k2 k4 hb3 hb4 hr3;go_wp2;refine bodyPost_ret (v:=iv sq A3 (dig (x*y)).length c3) (by simp[results,Tryz.results83,go_sem,u1,u2]) rfl ?_;have e:strip (n !=m) (dig (x*y))=(sq,dig (x*y)):=by unfold strip;rw[HSQ.out]
 rw[(zn_mul n m x y:zn n x*zn m y=zn (n !=m) (x*y)),←strip_dig,e];exact ⟨⟨A3,c3,rfl,hr4⟩,hbel⟩
theorem sum_eq {n m:Bool} {A B:Option Addr} {c d:Nat} {xs ys:List Nat} {w:World} (h1:dig (val xs)=xs) (h2:dig (val ys)=ys) (ha:Rd w A c xs) (hb:Rd w B d ys) (hx:xs.length≤10000) (hy:ys.length≤10000):Calls Tryz.prog 82 #[iv n A xs.length c,iv m B ys.length d] w fun e w'=>RetN w w' e (sN (zn n (val xs)+zn m (val ys)),sD (zn n (val xs)+zn m (val ys))):=by
 have h:=rsum_any n m A B c d (val xs) (val ys) w (by rw[h1];exact ha) (by rw[h2];exact hb) (by rw[h1];exact hx) (by rw[h2];exact hy);rw[h1,h2]at h;exact h
theorem times_eq {n m:Bool} {A B:Option Addr} {c d:Nat} {xs ys:List Nat} {w:World} (h1:dig (val xs)=xs) (h2:dig (val ys)=ys) (ha:Rd w A c xs) (hb:Rd w B d ys) (hx:xs.length≤10000) (hy:ys.length≤10000):Calls Tryz.prog 83 #[iv n A xs.length c,iv m B ys.length d] w fun e w'=>RetN w w' e (sN (zn n (val xs)*zn m (val ys)),sD (zn n (val xs)*zn m (val ys))):=by
 have h:=rtimes_any n m A B c d (val xs) (val ys) w (by rw[h1];exact ha) (by rw[h2];exact hb) (by rw[h1];exact hx) (by rw[h2];exact hy);rw[h1,h2]at h;exact h
end Go.Proofs.YtjlhjabgclflcaaGreatDoor
namespace Go.Proofs.YtjlhjabgclflcaaGreatDoor
open Go.RowKit Num
theorem rsneg_any (n:Bool) (A:Option Addr) (c:Nat) (xs:List Nat) (w:World) (ha:Rd w A c xs):Calls Tryz.prog 85 #[iv n A xs.length c] w fun e w'=>RetI w w' e (snegR n xs):=by
 have ha0:=(ha.alloc (.cells #[.bool n,.slice A xs.length c] 131)).alloc (.cells #[.bool false,.slice none 0 0] 131);have hb0:=below_alloc (below_alloc1 w (.cells #[.bool n,.slice A xs.length c] 131)) (Nat.le_refl _) (.cells #[.bool false,.slice none 0 0] 131);have k1:Blk ((w.alloc (.cells #[.bool n,.slice A xs.length c] 131)).alloc (.cells #[.bool false,.slice none 0 0] 131)) w.heap.size _ _:=(Blk.new w 131 #[.bool n,.slice A xs.length c]).alloc _;have k4:Blk ((w.alloc (.cells #[.bool n,.slice A xs.length c] 131)).alloc (.cells #[.bool false,.slice none 0 0] 131)) (w.heap.size+1) _ _:=Blk.at_ (by simp);rcases Bool.eq_false_or_eq_true (sright n xs) with h1|h1
 case inr=>
  have HE:=Lib.hid (snegR_no h1);have H1:=Lib.hid h1;clear h1;go_enter Tryz.func85,Tryz.ntmps85;go_wp2_with fail;refine (srright_any _ A c xs _ ha0).mono ?_;rintro e w2 ⟨rfl,hb2⟩;rw[H1.out];have j4:=k4.below hb2 (Nat.le_refl _);have hbel:=below_trans hb0 hb2;go_wp2_with ((with_reducible refine st_ ?_);refine wp_put2 _ _ j4 rfl rfl rfl rfl info_rint rfl rfl ?_;intro wA a3 gA;obtain ⟨v5,v6,_,_⟩:=a3.both);rw[HE.out];exact bodyPost_ret (v:= .tuple #[iv false none 0 0,.int .i64 2]) (by simp[results,Tryz.results85,go_sem,v5,v6]) rfl ⟨⟨none,0,rfl,Rd.nil⟩,below_grown hbel gA (hbel).size (by omega)⟩
 have HE:=Lib.hid (snegR_eq ha.ok h1);have H1:=Lib.hid h1;clear h1;go_enter Tryz.func85,Tryz.ntmps85;go_wp2_with fail;refine (srright_any _ A c xs _ ha0).mono ?_;rintro e w2 ⟨rfl,hb2⟩;rw[H1.out];obtain ⟨v1,v2,_,_⟩:=(k1.below hb2 (Nat.le_refl _)).both;have ha2:=ha0.below hb2 (Nat.le_refl _);go_wp2_with fail;refine (rmade_any (!n) A c xs w2 ha2).mono ?_;generalize (!n&&decide (xs≠[]))=sq at*;rintro e w3 ⟨rfl,hb3⟩;have m4:=(k4.below hb2 (Nat.le_refl _)).below hb3 (Nat.le_refl _);have hr5:=ha2.below hb3 (Nat.le_refl _);have hbel5:=below_trans (below_trans hb0 hb2) hb3;go_wp2_with ((with_reducible refine st_ ?_);refine wp_put2 _ _ m4 rfl rfl rfl rfl info_rint rfl rfl ?_;intro wA a3 gA;obtain ⟨v5,v6,_,_⟩:=a3.both);rw[HE.out];exact bodyPost_ret (v:= .tuple #[iv sq A xs.length c,.int .i64 0]) (by simp[results,Tryz.results85,go_sem,v5,v6]) rfl ⟨⟨A,c,rfl,hr5.turn gA m4.ib⟩,below_grown hbel5 gA hbel5.size (by omega)⟩
theorem rof_use {u:Nat} {U:Int} {w:World} (h:U=(u:Int)) (hu:u<18446744073709551616):Calls Tryz.prog 119 #[.int .u64 U] w fun e w'=>RetS w w' e (dig u):=by
 subst h;exact rof_any u w hu
theorem plus_lit {A:Option Addr} {c k g:Nat} {w:World} (ha:Rd w A c (dig k)) (hg:g=w.heap.size) (hl:(dig k).length≤1000):Calls Tryz.prog 115 #[.slice A (dig k).length c,.slice (some ⟨g,0,none⟩) 1 1] (w.alloc (.cells #[.int .u32 1] 152)) fun e w'=>RetS (w.alloc (.cells #[.int .u32 1] 152)) w' e (dig (k+1)):=by
 have h:=plus_any A (some ⟨g,0,none⟩) c 1 (dig k) [1] (w.alloc (.cells #[.int .u32 1] 152)) (ha.alloc _) (lit1 w 1 rfl hg (by decide)) (by omega) (by decide);rw[val_dig]at h;exact h
theorem rsof_any (z:Int) (w:World) (hz: -9223372036854775808≤z) (hz':z≤9223372036854775807):Calls Tryz.prog 84 #[.int .i64 z] w fun e w'=>RetN w w' e (sN z,sD z):=by
 have hb0:=below_alloc1 w (.cells #[.bool false,.slice none 0 0] 131);have k1:=Blk.new w 131 #[.bool false,.slice none 0 0];by_cases h:z<0
 ·have HD:Hid (sN z=true∧sD z=dig ((-(z+1)).toNat+1)):=by
   obtain ⟨e1,e2⟩:=sd_neg h;exact ⟨e1,e2.trans (by congr 1;omega)⟩
  have HQ:Hid (decide (dig ((-(z+1)).toNat+1)≠[])=true):=decide_eq_true (fun e=>by have:=dig_eq_nil.1 e;omega);have HL:Hid ((dig (-(z+1)).toNat).length≤1000):=Nat.le_trans (dig_length_le (k:=2) (show (-(z+1)).toNat<4294967296^2 by omega)) (by decide);have HU:Hid (-(z+1)=(((-(z+1)).toNat:Nat):Int)):=by unfold Hid;omega
  have HB:Hid ((-(z+1)).toNat<18446744073709551616):=by unfold Hid;omega
  go_enter Tryz.func84,Tryz.ntmps84;go_wp2_with fail;refine (rof_use HU.out HB.out).mono ?_;rintro e w2 ⟨⟨A2,c2,rfl,hr2⟩,hb2⟩;have k2:=k1.below hb2 (Nat.le_refl _);have hbel:=below_trans hb0 hb2;clear hb0 hb2 k1;go_wp2_with fail;refine (plus_lit hr2 rfl HL.out).mono ?_;rintro e w3 ⟨⟨A3,c3,rfl,hr3⟩,hb3⟩;have k3:=(k2.alloc _).below hb3 (Nat.le_refl _);have hbel3:=below_trans (below_alloc hbel (Nat.le_refl _) _) hb3;clear hb3 hbel k2;go_wp2_with fail;refine (rmade_any true A3 c3 _ w3 hr3).mono ?_;rw[HQ.out];rintro e w4 ⟨rfl,hb4⟩;have k4:=k3.below hb4 (Nat.le_refl _);have hr4:=hr3.below hb4 (Nat.le_refl _);have hbel4:=below_trans hbel3 hb4;clear hb4 hbel3 k3;go_wp2_with ((with_reducible refine st_ ?_);refine wp_put2 _ _ k4 rfl rfl rfl rfl info_rint rfl rfl ?_;intro w5 i5 g5;obtain ⟨v5,v6,v7,v8⟩:=i5.both);rw[HD.out.1,HD.out.2];exact bodyPost_ret (v:=iv true A3 (dig ((-(z+1)).toNat+1)).length c3) (by simp[results,Tryz.results84,go_sem,v5,v6]) rfl ⟨⟨A3,c3,rfl,hr4.turn g5 k4.ib⟩,below_grown hbel4 g5 hbel4.size (Nat.le_refl _)⟩
 ·have HD:=Lib.hid (sd_pos (Int.not_lt.1 h));have HU:Hid (z=((z.toNat:Nat):Int)):=by unfold Hid;omega
  have HB:Hid (z.toNat<18446744073709551616):=by unfold Hid;omega
  go_enter Tryz.func84,Tryz.ntmps84;go_wp2_with fail;refine (rof_use HU.out HB.out).mono ?_;rintro e w2 ⟨⟨A2,c2,rfl,hr2⟩,hb2⟩;have k2:=k1.below hb2 (Nat.le_refl _);have hbel:=below_trans hb0 hb2;clear hb0 hb2 k1;go_wp2_with fail;refine (rmade_any false A2 c2 _ w2 hr2).mono ?_;rintro e w4 ⟨rfl,hb4⟩;have k4:=k2.below hb4 (Nat.le_refl _);have hr4:=hr2.below hb4 (Nat.le_refl _);have hbel4:=below_trans hbel hb4;go_wp2_with ((with_reducible refine st_ ?_);refine wp_put2 _ _ k4 rfl rfl rfl rfl info_rint rfl rfl ?_;intro w5 i5 g5;obtain ⟨v5,v6,v7,v8⟩:=i5.both);rw[HD.out.1,HD.out.2];exact bodyPost_ret (v:=iv false A2 (dig z.toNat).length c2) (by simp[results,Tryz.results84,go_sem,v5,v6]) rfl ⟨⟨A2,c2,rfl,hr4.turn g5 k4.ib⟩,below_grown hbel4 g5 hbel4.size (Nat.le_refl _)⟩
theorem rssmall_any (n:Bool) (A:Option Addr) (c:Nat) (xs:List Nat) (w:World) (ha:Rd w A c xs):Calls Tryz.prog 86 #[iv n A xs.length c] w fun e w'=>e= .returned (.tuple #[.int .i64 (ssmallR n xs).1,.int .i64 (ssmallR n xs).2])∧Below w.heap.size w w':=by
 have ha0:=ha.alloc (.cells #[.bool n,.slice A xs.length c] 131);have hb0:=below_alloc1 w (.cells #[.bool n,.slice A xs.length c] 131);have k1:=Blk.new w 131 #[.bool n,.slice A xs.length c];rcases Bool.eq_false_or_eq_true (sright n xs) with h1|h1
 ·have H1:=Lib.hid h1;have hl:xs.length≤256:=right_len (sright_rightB h1);by_cases h2:xs.length≤2
  ·have hlt:=val_two ha.ok h2;have HU:Hid (uintR xs=(val xs,0)):=by unfold Hid uintR;rw[if_pos (sright_rightB h1),if_pos h2]
   cases n
   ·by_cases h3:val xs≤9223372036854775807
    ·have h3i:(val xs:Int)≤9223372036854775807:=by omega
     have h3b:decide ((9223372036854775808:Int)≤(val xs:Int))=false:=decide_eq_false (by omega);clear h3;have HE:=Lib.hid ((ssmallR_eq h1).trans ((if_pos (by unfold sv;simp;omega)).trans (by rfl:_=((val xs:Int),(0:Int)))));clear h1;try clear hn
     go_enter Tryz.func86,Tryz.ntmps86;go_wp2_with fail;refine (srright_any _ A c xs _ ha0).mono ?_;rintro e w2 ⟨rfl,hb2⟩;rw[H1.out];obtain ⟨v1,v2,_,_⟩:=(k1.below hb2 (Nat.le_refl _)).both;have ha2:=ha0.below hb2 (Nat.le_refl _);have hbel:=below_trans hb0 hb2;clear hb2 k1 ha0 hb0;go_wp2_with fail;refine (ruint_any A c xs w2 ha2 (by omega)).mono ?_;rintro e w3 ⟨hret,k3,rfl⟩;unfold RetUE at hret;subst hret;rw[HU.out];clear HU;generalize val xs=v at*;go_wp2;go_ret2;refine ⟨?_,hbel.trans ((Read.refl w2).drewN k3|>.below _)⟩;rw[HE.out];try rfl
    ·have h3b:decide ((9223372036854775808:Int)≤(val xs:Int))=true:=decide_eq_true (by omega);have h3i:(9223372036854775808:Int)≤(val xs:Int):=by omega
     clear h3;have hn:¬(-9223372036854775808≤sv false xs∧sv false xs<9223372036854775808):=by unfold sv;simp;omega
     clear h3i;have HE:=Lib.hid ((ssmallR_eq h1).trans (if_neg hn));clear h1;try clear hn
     go_enter Tryz.func86,Tryz.ntmps86;go_wp2_with fail;refine (srright_any _ A c xs _ ha0).mono ?_;rintro e w2 ⟨rfl,hb2⟩;rw[H1.out];obtain ⟨v1,v2,_,_⟩:=(k1.below hb2 (Nat.le_refl _)).both;have ha2:=ha0.below hb2 (Nat.le_refl _);have hbel:=below_trans hb0 hb2;clear hb2 k1 ha0 hb0;go_wp2_with fail;refine (ruint_any A c xs w2 ha2 (by omega)).mono ?_;rintro e w3 ⟨hret,k3,rfl⟩;unfold RetUE at hret;subst hret;rw[HU.out];clear HU;generalize val xs=v at*;go_wp2;go_ret2;refine ⟨?_,hbel.trans ((Read.refl w2).drewN k3|>.below _)⟩;rw[HE.out];try rfl
   ·have hp:=val_pos_right ha.ok (sright_rightB h1) (sright_ne h1);by_cases h3:val xs≤9223372036854775808
    ·have HE:=Lib.hid ((ssmallR_eq h1).trans ((if_pos (by unfold sv;simp;omega)).trans (by rfl:_=(-(val xs:Int),(0:Int)))));clear h1;try clear hn
     go_enter Tryz.func86,Tryz.ntmps86;go_wp2_with fail;refine (srright_any _ A c xs _ ha0).mono ?_;rintro e w2 ⟨rfl,hb2⟩;rw[H1.out];obtain ⟨v1,v2,_,_⟩:=(k1.below hb2 (Nat.le_refl _)).both;have ha2:=ha0.below hb2 (Nat.le_refl _);have hbel:=below_trans hb0 hb2;clear hb2 k1 ha0 hb0;go_wp2_with fail;refine (ruint_any A c xs w2 ha2 (by omega)).mono ?_;rintro e w3 ⟨hret,k3,rfl⟩;unfold RetUE at hret;subst hret;rw[HU.out];clear HU;generalize val xs=v at*;go_wp2;go_ret2;refine ⟨?_,hbel.trans ((Read.refl w2).drewN k3|>.below _)⟩;rw[HE.out];try rfl
     show Ending.returned (.tuple #[.int .i64 (-((v:Int)-1)-1),.int .i64 0])=_;rw[show (-((v:Int)-1)-1)= -(v:Int) by omega]
    ·have HE:=Lib.hid ((ssmallR_eq h1).trans (if_neg (by unfold sv;simp;omega)));clear h1;try clear hn
     go_enter Tryz.func86,Tryz.ntmps86;go_wp2_with fail;refine (srright_any _ A c xs _ ha0).mono ?_;rintro e w2 ⟨rfl,hb2⟩;rw[H1.out];obtain ⟨v1,v2,_,_⟩:=(k1.below hb2 (Nat.le_refl _)).both;have ha2:=ha0.below hb2 (Nat.le_refl _);have hbel:=below_trans hb0 hb2;clear hb2 k1 ha0 hb0;go_wp2_with fail;refine (ruint_any A c xs w2 ha2 (by omega)).mono ?_;rintro e w3 ⟨hret,k3,rfl⟩;unfold RetUE at hret;subst hret;rw[HU.out];clear HU;generalize val xs=v at*;go_wp2;go_ret2;refine ⟨?_,hbel.trans ((Read.refl w2).drewN k3|>.below _)⟩;rw[HE.out];try rfl
  ·have hge:=val_three ha.ok (sright_rightB h1) h2;have HU:Hid (uintR xs=(0,4)):=by unfold Hid uintR;rw[if_pos (sright_rightB h1),if_neg h2]
   have HE:=Lib.hid ((ssmallR_eq h1).trans (if_neg (by unfold sv;cases n<;>simp<;>omega)));clear h1;try clear hn
   go_enter Tryz.func86,Tryz.ntmps86;go_wp2_with fail;refine (srright_any _ A c xs _ ha0).mono ?_;rintro e w2 ⟨rfl,hb2⟩;rw[H1.out];obtain ⟨v1,v2,_,_⟩:=(k1.below hb2 (Nat.le_refl _)).both;have ha2:=ha0.below hb2 (Nat.le_refl _);have hbel:=below_trans hb0 hb2;clear hb2 k1 ha0 hb0;go_wp2_with fail;refine (ruint_any A c xs w2 ha2 (by omega)).mono ?_;rintro e w3 ⟨hret,k3,rfl⟩;unfold RetUE at hret;subst hret;rw[HU.out];clear HU;generalize val xs=v at*;go_wp2;go_ret2;refine ⟨?_,hbel.trans ((Read.refl w2).drewN k3|>.below _)⟩;rw[HE.out];try rfl
 ·have HE:=Lib.hid (ssmallR_no h1);have H1:=Lib.hid h1;clear h1;go_enter Tryz.func86,Tryz.ntmps86;go_wp2_with fail;refine (srright_any _ A c xs _ ha0).mono ?_;rintro e w2 ⟨rfl,hb2⟩;rw[H1.out];go_wp2;go_ret2;rw[HE.out];exact ⟨rfl,below_trans hb0 hb2⟩
end Go.Proofs.YtjlhjabgclflcaaGreatDoor
namespace Go.Proofs.YtjlhjabgclflcaaGreatDoor
open Go.RowKit Num
end Go.Proofs.YtjlhjabgclflcaaGreatDoor
set_option linter.unusedSimpArgs false
set_option linter.unusedVariables false
namespace Go.Proofs.YtjlhjabgclflcaaGreatDoor
open Go.RowKit Num
end Go.Proofs.YtjlhjabgclflcaaGreatDoor
namespace Go.Proofs.YtjlhjabgclflcaaGreatDoor
open Go.RowKit Num
end Go.Proofs.YtjlhjabgclflcaaGreatDoor
set_option linter.unusedSimpArgs false
set_option linter.unusedVariables false
namespace Go.Proofs.YtjlhjabgclflcaaGreatDoor
open Go.RowKit Num
structure El where
 n:Bool
 A:Option Addr
 xs:List Nat
 c:Nat
def Els (w:World) (g:Nat) (L:List El):Prop:=g<w.heap.size∧∀i (h:i<L.length),w.cell? ⟨g,i*2,none⟩=some (.bool L[i].n)∧w.cell? ⟨g,i*2+1,none⟩=some (.slice L[i].A L[i].xs.length L[i].c)∧Rd w L[i].A L[i].c L[i].xs
theorem Els.below {w w':World} {g:Nat} {L:List El} (h:Els w g L) (hb:Below w.heap.size w w'):Els w' g L:=
 ⟨Nat.lt_of_lt_of_le h.1 hb.size,fun i hi=>⟨(hb.cell (p:=⟨g,i*2,none⟩) h.1).trans (h.2 i hi).1,(hb.cell (p:=⟨g,i*2+1,none⟩) h.1).trans (h.2 i hi).2.1,(h.2 i hi).2.2.below hb (Nat.le_refl _)⟩⟩
theorem all_step {α:Type} {p:α→Bool} {L:List α} {k:Nat} (hk:k<L.length) (h:(L.take k).all p=true) (h2:p L[k]=true):(L.take (k+1)).all p=true:=by
 rw[List.take_succ_eq_append_getElem hk,List.all_append,h];simp[h2]
theorem all_end {α:Type} {p:α→Bool} {L:List α} {k:Nat} (hk:k=L.length) (h:(L.take k).all p=true):L.all p=true:=by
 subst hk;rwa[List.take_length]at h
theorem all_no {α:Type} {p:α→Bool} {L:List α} {k:Nat} (hk:k<L.length) (h2:p L[k]=false):L.all p=false:=by
 rw[List.all_eq_false];exact ⟨_,List.getElem_mem hk,by simp[h2]⟩
end Go.Proofs.YtjlhjabgclflcaaGreatDoor
namespace Go.Proofs.YtjlhjabgclflcaaGreatDoor
open Go.RowKit Num
end Go.Proofs.YtjlhjabgclflcaaGreatDoor
namespace Go.Proofs.YtjlhjabgclflcaaGreatDoor
open Go.RowKit Num
structure Mem (w0 w:World) (Ks:List (Nat×TypeId×Array Value)) (Rs:List (Option Addr×Nat×List Nat)):Prop where
 bel:Below w0.heap.size w0 w
 ks:∀k∈Ks,Blk w k.1 k.2.1 k.2.2
 rs:∀r∈Rs,Rd w r.1 r.2.1 r.2.2
variable {w0 w w' : World} {Ks : List (Nat × TypeId × Array Value)} {Rs : List (Option Addr × Nat × List Nat)}
theorem Mem.start (w:World):Mem w w [] []:=⟨Below.refl _ _,fun _ h=>by simp at h,fun _ h=>by simp at h⟩
theorem Mem.below (h:Mem w0 w Ks Rs) (q:Below w.heap.size w w'):Mem w0 w' Ks Rs:=
 ⟨below_trans h.bel q,fun k hk=>(h.ks k hk).below q (Nat.le_refl _),fun r hr=>(h.rs r hr).below q (Nat.le_refl _)⟩
theorem Mem.drew (h:Mem w0 w Ks Rs):Mem w0 w.drew Ks Rs:=⟨h.bel.trans ((Read.refl w).drew.below _),fun k hk=>(h.ks k hk).drew,fun r hr=>(h.rs r hr).drew⟩
theorem Mem.drewN (h:Mem w0 w Ks Rs) (n:Nat):Mem w0 (w.drewN n) Ks Rs:=⟨h.bel.trans ((Read.refl w).drewN n|>.below _),fun k hk=>(h.ks k hk).drewN n,fun r hr=>(h.rs r hr).drewN n⟩
theorem Mem.alloc (h:Mem w0 w Ks Rs) (o:Obj):Mem w0 (w.alloc o) Ks Rs:=h.below (below_alloc1 w o)
theorem Mem.k (h:Mem w0 w Ks Rs) {i:Nat} {g:Nat} {t:TypeId} {cs:Array Value} (hi:Ks[i]? =some (g,t,cs)):Blk w g t cs:=h.ks _ (List.mem_of_getElem? hi)
theorem Mem.r (h:Mem w0 w Ks Rs) {i:Nat} {A:Option Addr} {c:Nat} {xs:List Nat} (hi:Rs[i]? =some (A,c,xs)):Rd w A c xs:=h.rs _ (List.mem_of_getElem? hi)
theorem Mem.addK (h:Mem w0 w Ks Rs) {g:Nat} {t:TypeId} {cs:Array Value} (hb:Blk w g t cs):Mem w0 w ((g,t,cs)::Ks) Rs:=
 ⟨h.bel,fun k hk=>by
  rcases List.mem_cons.1 hk with rfl|hk
  ·exact hb
  ·exact h.ks k hk,h.rs⟩
theorem Mem.addR (h:Mem w0 w Ks Rs) {A:Option Addr} {c:Nat} {xs:List Nat} (hr:Rd w A c xs):Mem w0 w Ks ((A,c,xs)::Rs):=
 ⟨h.bel,h.ks,fun r hk=>by
  rcases List.mem_cons.1 hk with rfl|hk
  ·exact hr
  ·exact h.rs r hk⟩
theorem Mem.new (h:Mem w0 w Ks Rs) (t:TypeId) (cs:Array Value):Mem w0 (w.alloc (.cells cs t)) ((w.heap.size,t,cs)::Ks) Rs:=(h.alloc _).addK (Blk.new w t cs)
theorem Mem.newAt (h:Mem w0 w Ks Rs) {g:Nat} (hg:g=w.heap.size) (t:TypeId) (cs:Array Value):Mem w0 (w.alloc (.cells cs t)) ((g,t,cs)::Ks) Rs:=by subst hg;exact h.new t cs
theorem Mem.tailK {x:Nat×TypeId×Array Value} (h:Mem w0 w (x::Ks) Rs):Mem w0 w Ks Rs:=⟨h.bel,fun k hk=>h.ks k (List.mem_cons_of_mem _ hk),h.rs⟩
theorem Mem.put {g:Nat} {t:TypeId} {n:Bool} {A:Option Addr} {l c:Nat} (h:Mem w0 w ((g,t,#[.bool n,.slice A l c])::Ks) Rs) (hg:w0.heap.size≤g) (hne:∀k∈Ks,k.1≠g) (m:Bool) (B:Option Addr) (k d:Nat):Mem w0 ((w.setCell ⟨g,0,none⟩ (.bool m)).setCell ⟨g,1,none⟩ (.slice B k d)) ((g,t,#[.bool m,.slice B k d])::Ks) Rs:=
 ⟨below_put h.bel hg _ _,fun x hx=>by
  rcases List.mem_cons.1 hx with rfl|hx
  ·exact (h.k (i:=0) rfl).put _ _
  ·exact (h.ks x (List.mem_cons_of_mem _ hx)).away (hne x hx) _ _,fun r hr=>(h.rs r hr).put (h.k (i:=0) rfl).ib m _⟩
theorem Mem.lt (h:Mem w0 w Ks Rs):∀k∈Ks,k.1<w.heap.size:=fun k hk=>(h.ks k hk).lt
end Go.Proofs.YtjlhjabgclflcaaGreatDoor

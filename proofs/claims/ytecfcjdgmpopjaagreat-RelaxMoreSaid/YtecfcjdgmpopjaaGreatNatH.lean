/-
  Joined texts: NatD, NatE, NatF, NatG, NatH.
-/
import Derived.Test.YtecfcjdgmpopjaaGreatNatC
import Derived.Test.YtecfcjdgmpopjaaGreatMulP
set_option maxRecDepth 100000
namespace Go.Proofs.YtecfcjdgmpopjaaGreat
open Go.RowKit Num
def fitR (n:Nat):List Nat×Int:=if (dig n).length≤256 then(dig n,0) else([],3)
def addR (xs ys:List Nat):List Nat×Int:=if rightB xs&&rightB ys then fitR (val xs+val ys) else([],2)
def subR (xs ys:List Nat):List Nat×Int:=if rightB xs&&rightB ys&&decide (val ys≤val xs) then(dig (val xs-val ys),0) else([],2)
def cmpR (xs ys:List Nat):Int×Int:=if rightB xs&&rightB ys then(cmpN (val xs) (val ys),0) else(0,2)
theorem dig_len_le (xs:List Nat)(h:Ok xs):(dig (val xs)).length≤xs.length:=dig_length_le (val_lt h)
theorem fit_any (A:Option Addr)(c:Nat)(xs:List Nat)(w:World)(h:Rd w A c xs)(hs:xs.length≤1000000):Calls Tryz.prog 170 #[.slice A xs.length c] w fun e w'=>RetSE w w' e (fitR (val xs)):=by
 have hl:=dig_len_le xs h.ok;by_cases hb:(dig (val xs)).length≤256
 ·have he:fitR (val xs)=(dig (val xs),0):=by simp[fitR,hb]
  have He:=ZH he;clear he;go_enter Tryz.func170,Tryz.ntmps170;go_wp2_with (go_at_call 155;refine(trim_any A c xs _ h hs).mono ?_;rintro e w' ⟨h1,rfl⟩;obtain⟨rfl,h2⟩:=trim_use h1 h);go_ret2;rw[He.out];exact⟨⟨A,c,rfl,h2⟩,Below.refl _ _⟩
 ·have he:fitR (val xs)=([],3):=by simp[fitR,hb]
  have He:=ZH he;clear he;go_enter Tryz.func170,Tryz.ntmps170;go_wp2_with (go_at_call 155;refine(trim_any A c xs _ h hs).mono ?_;rintro e w' ⟨h1,rfl⟩;obtain⟨rfl,h2⟩:=trim_use h1 h);go_ret2;rw[He.out];exact⟨⟨none,0,rfl,Rd.nil⟩,Below.refl _ _⟩
theorem step_add {P a b o cr dx dy s q:Nat}(h:o+P*cr=a+b)(hs:s+4294967296*q=dx+dy+cr):(o+P*s)+(P*4294967296)*q=(a+P*dx)+(b+P*dy):=by
 have e:P*s+P*4294967296*q=P*dx+P*dy+P*cr:=by
  rw[Nat.mul_assoc,←Nat.mul_add,hs,Nat.mul_add,Nat.mul_add]
 omega
theorem step_sub {P a b o cr dx dy s q:Nat}(h:o+b=a+P*cr)(hs:s+dy+cr=dx+4294967296*q):(o+P*s)+(b+P*dy)=(a+P*dx)+(P*4294967296)*q:=by
 have e:P*s+P*dy+P*cr=P*dx+P*4294967296*q:=by
  rw[Nat.mul_assoc,←Nat.mul_add,←Nat.mul_add,hs,Nat.mul_add]
 omega
theorem carry_out {P o x y cr:Nat}(b1:x<P)(b2:y<P)(h3:o+P*4294967296*cr=x+y):o=x+y:=by
 rcases Nat.eq_zero_or_pos cr with hc|hc
 ·rw[hc,Nat.mul_zero]at h3;omega
 ·obtain⟨c',hc'⟩:∃c',cr=c'+1:=⟨cr-1,by omega⟩;rw[hc',Nat.mul_add,Nat.mul_one]at h3;generalize P*4294967296*c'=Z at h3;omega
def AddTo (xs ys:List Nat)(k:Nat)(outs:List Nat)(cr:Nat):Prop:=Ok outs∧outs.length=k∧val outs+4294967296^k*cr=val (xs.take k)+val (ys.take k)
theorem AddTo.zero (xs ys:List Nat):AddTo xs ys 0 [] 0:=⟨Ok.nil,rfl,by simp[val]⟩
theorem AddTo.step {xs ys:List Nat}{k:Nat}{outs:List Nat}{cr s q:Nat}(h:AddTo xs ys k outs cr)(hs:s<4294967296)(e:s+4294967296*q=at0 xs k+at0 ys k+cr):AddTo xs ys (k+1) (outs++[s]) q:=by
 obtain⟨h1,h2,h3⟩:=h;refine⟨h1.append (Ok.cons hs Ok.nil),by simp[h2],?_⟩;rw[val_snoc,h2,val_take_at0,val_take_at0,Nat.pow_succ];generalize 4294967296^k=P at h3⊢;exact step_add h3 e
theorem AddTo.last {xs ys:List Nat}{k:Nat}{outs:List Nat}{cr:Nat}(h:AddTo xs ys k outs cr)(h1:xs.length≤k)(h2:ys.length≤k):val (outs++[cr])=val xs+val ys:=by
 obtain⟨_,hl,h3⟩:=h;rw[List.take_of_length_le h1,List.take_of_length_le h2]at h3;rw[val_snoc,hl,h3]
def SubTo (xs ys:List Nat)(k:Nat)(outs:List Nat)(cr:Nat):Prop:=Ok outs∧outs.length=k∧val outs+val (ys.take k)=val (xs.take k)+4294967296^k*cr
theorem SubTo.zero (xs ys:List Nat):SubTo xs ys 0 [] 0:=⟨Ok.nil,rfl,by simp[val]⟩
theorem SubTo.step {xs ys:List Nat}{k:Nat}{outs:List Nat}{cr s q:Nat}(h:SubTo xs ys k outs cr)(hs:s<4294967296)(e:s+at0 ys k+cr=at0 xs k+4294967296*q):SubTo xs ys (k+1) (outs++[s]) q:=by
 obtain⟨h1,h2,h3⟩:=h;refine⟨h1.append (Ok.cons hs Ok.nil),by simp[h2],?_⟩;rw[val_snoc,h2,val_take_at0,val_take_at0,Nat.pow_succ];generalize 4294967296^k=P at h3⊢;exact step_sub h3 e
theorem borrow_out {P o x y cr:Nat}(b1:o<P)(b2:y≤x)(h3:o+y=x+P*cr):o=x-y:=by
 rcases Nat.eq_zero_or_pos cr with hc|hc
 ·rw[hc,Nat.mul_zero]at h3;omega
 ·obtain⟨c',hc'⟩:∃c',cr=c'+1:=⟨cr-1,by omega⟩;rw[hc',Nat.mul_add,Nat.mul_one]at h3;generalize P*c'=Z at h3;omega
theorem SubTo.done {xs ys:List Nat}{k:Nat}{outs:List Nat}{cr:Nat}(h:SubTo xs ys k outs cr)(h1:xs.length≤k)(h2:ys.length≤k)(hle:val ys≤val xs):val outs=val xs-val ys:=by
 obtain⟨ho,hl,h3⟩:=h;rw[List.take_of_length_le h1,List.take_of_length_le h2]at h3;have b:=val_lt ho;rw[hl]at b;generalize 4294967296^k=P at h3 b;exact borrow_out b hle h3
theorem right_dig {xs:List Nat}(ho:Ok xs)(h:rightB xs=true):dig (val xs)=xs:=by
 unfold rightB at h;exact dig_val ho (of_decide_eq_true h).2
theorem right_len {xs:List Nat}(h:rightB xs=true):xs.length≤256:=by
 unfold rightB at h;exact(of_decide_eq_true h).1
theorem dig_len_mono {m n:Nat}(h:m≤n):(dig m).length≤(dig n).length:=dig_length_le (Nat.lt_of_le_of_lt h (le_of_dig_length ZL))
theorem cmpR_eq {xs ys:List Nat}(h1:rightB xs=true)(h2:rightB ys=true):cmpR xs ys=(cmpN (val xs) (val ys),0):=by simp[cmpR,h1,h2]
theorem cmpR_no {xs ys:List Nat}(h:(rightB xs&&rightB ys)=false):cmpR xs ys=(0,2):=by simp[cmpR,h]
theorem addR_eq {xs ys:List Nat}(h1:rightB xs=true)(h2:rightB ys=true):addR xs ys=fitR (val xs+val ys):=by simp[addR,h1,h2]
theorem addR_no {xs ys:List Nat}(h:(rightB xs&&rightB ys)=false):addR xs ys=([],2):=by simp[addR,h]
theorem cmp_any (A B:Option Addr)(c d:Nat)(xs ys:List Nat)(w:World)(ha:Rd w A c xs)(hb:Rd w B d ys):Calls Tryz.prog 130 #[.slice A xs.length c,.slice B ys.length d] w fun e w'=>e= .returned (.tuple #[.int .i64 (cmpR xs ys).1,.int .i64 (cmpR xs ys).2])∧Read w w':=by
 by_cases h1:rightB xs=true
 ·by_cases h2:rightB ys=true
  ·have hd1:=right_dig ha.ok h1;have hd2:=right_dig hb.ok h2;have hl1:=right_len h1;have hl2:=right_len h2;have HE:=ZH (cmpR_eq h1 h2);have HO:=fun w' ha' hb'=>order_any A B c d (val xs) (val ys) w' ha' hb' (by rw[hd1];omega) (by rw[hd2];omega);rw[hd1,hd2]at HO;have HO:=ZH HO;clear hd1 hd2;go_enter Tryz.func130,Tryz.ntmps130;go_wp2_with (first
    |(go_at_call 168;refine(right_any _ _ _ _ (by first|exact ha|exact hb)).mono ?_;rintro e w' ⟨rfl,rfl⟩)
    |(go_at_call 171;refine(HO.out _ ha hb).mono ?_;rintro e w' ⟨rfl,k,rfl⟩))
   go_ret2;rw[HE.out];exact⟨rfl,(by first|exact Read.refl _|exact⟨_,rfl⟩|exact Read.drewN ⟨_,rfl⟩ _|exact Read.drewN (Read.drewN ⟨_,rfl⟩ _) _|exact Read.drewN (Read.refl _) _)⟩
  ·have h2':rightB ys=false:=by simpa using h2
   clear h2;have HE:=ZH (cmpR_no (xs:=xs) (ys:=ys) (by rw[h2'];simp));go_enter Tryz.func130,Tryz.ntmps130;go_wp2_with (go_at_call 168;refine(right_any _ _ _ _ (by first|exact ha|exact hb)).mono ?_;rintro e w' ⟨rfl,rfl⟩);go_ret2;rw[HE.out];exact⟨rfl,Read.refl _⟩
 ·have h1':rightB xs=false:=by simpa using h1
  clear h1;have HE:=ZH (cmpR_no (xs:=xs) (ys:=ys) (by rw[h1'];simp));go_enter Tryz.func130,Tryz.ntmps130;go_wp2_with (go_at_call 168;refine(right_any _ _ _ _ (by first|exact ha|exact hb)).mono ?_;rintro e w' ⟨rfl,rfl⟩);go_ret2;rw[HE.out];exact⟨rfl,Read.refl _⟩
set_option maxHeartbeats 1000000
theorem sum_len {x y k:Nat}(hx:x<4294967296^k)(hy:y<4294967296^k):(dig (x+y)).length≤k+1:=by
 apply dig_length_le;rw[Nat.pow_succ];generalize 4294967296^k=P at hx hy⊢;omega
theorem subR_eq {xs ys:List Nat}(h1:rightB xs=true)(h2:rightB ys=true)(h:val ys≤val xs):subR xs ys=(dig (val xs-val ys),0):=by simp[subR,h1,h2,h]
theorem subR_no {xs ys:List Nat}(h:(rightB xs&&rightB ys&&decide (val ys≤val xs))=false):subR xs ys=([],2):=by unfold subR;rw[h];rfl
theorem add_any (A B:Option Addr)(c d:Nat)(xs ys:List Nat)(w:World)(ha:Rd w A c xs)(hb:Rd w B d ys):Calls Tryz.prog 129 #[.slice A xs.length c,.slice B ys.length d] w fun e w'=>RetSE w w' e (addR xs ys):=by
 by_cases h1:rightB xs=true
 ·by_cases h2:rightB ys=true
  ·have hl1:=right_len h1;have hl2:=right_len h2;have HE:=ZH (addR_eq h1 h2);by_cases hsw:xs.length<ys.length
   ·go_enter Tryz.func129,Tryz.ntmps129;go_wp2_with (first
     |(go_at_call 168;refine(right_any _ _ _ _ (by first|exact ha|exact hb)).mono ?_;rintro e w' ⟨rfl,rfl⟩)
     |(at_make;refine wp_make0 _ _ _ (ys.length+1) (by omega) (by omega) rfl rfl rfl rfl ?_;intro w1 hown1 hbel1))
    go_loopw [6,7,32] (fun v cv i wr=>∃(k:Nat)(outs:List Nat)(cr:Nat),k≤ys.length∧i= .int .i64 k∧cv= .int .u32 cr∧cr≤1∧AddTo ys xs k outs cr∧Own wr w.heap.size v outs∧Below w.heap.size w wr) (fun _ _ i _=>ys.length-(intOf i).toNat)
    case atStart=>exact⟨0,[],0,by omega,rfl,rfl,by omega,AddTo.zero _ _,hown1,hbel1⟩
    case round=>
     obtain⟨k,outs,cr,hk,rfl,rfl,hcr,hadd,hown,hbel⟩:=hrel;have hol:outs.length≤1000000:=by have:=hadd.2.1;omega
     have HA:=ZH hadd;clear hadd hown1 hbel1;by_cases hlt:k<ys.length
     ·obtain⟨b1,o1,rfl,hb1,hc1⟩:=hb.at_ (by rintro rfl;simp at hlt);have h1:wr.cell? ⟨b1,o1+k,none⟩=some (.int .u32 (ys[k]'hlt)):=(hbel.cell (p:=⟨b1,o1+k,none⟩) hb1).trans (hc1 k hlt);have hd1:=hb.ok.get hlt;have HD1:=ZH (at0_in hlt);clear hc1;by_cases hlq:k<xs.length
      ·obtain⟨b2,o2,rfl,hb2,hc2⟩:=ha.at_ (by rintro rfl;simp at hlq);have h2:wr.cell? ⟨b2,o2+k,none⟩=some (.int .u32 (xs[k]'hlq)):=(hbel.cell (p:=⟨b2,o2+k,none⟩) hb2).trans (hc2 k hlq);have hd2:=ha.ok.get hlq;have HD2:=ZH (at0_in hlq);clear hc2;go_wp2_with (first
        |(go_at_call 169;refine(add32_any _ _ _ _ (by omega) (by omega) (by omega) (by omega) (by omega) (by omega)).mono ?_;rintro e w' ⟨⟨s,q,rfl,hs,hq,hsum⟩,rfl⟩;have HS:=ZH hsum;clear hsum)
        |(at_builtin;refine wp_app1 _ _ _ w.heap.size _ outs s rfl hown hbel.size hol rfl rfl rfl rfl ?_;intro v' w' hown' _ hbel'))
       go_roundw
       case rel=>exact⟨k+1,_,q,by omega,by go_num,rfl,hq,HA.out.step hs (by rw[HD1.out,HD2.out];have:=HS.out;omega),hown',hbel.trans hbel'⟩
       case measure=>simp[intOf];omega
      ·have HD2:=ZH (at0_out hlq);go_wp2_with (first
        |(go_at_call 169;refine(add32_any _ _ _ _ (by omega) (by omega) (by omega) (by omega) (by omega) (by omega)).mono ?_;rintro e w' ⟨⟨s,q,rfl,hs,hq,hsum⟩,rfl⟩;have HS:=ZH hsum;clear hsum)
        |(at_builtin;refine wp_app1 _ _ _ w.heap.size _ outs s rfl hown hbel.size hol rfl rfl rfl rfl ?_;intro v' w' hown' _ hbel'))
       go_roundw
       case rel=>exact⟨k+1,_,q,by omega,by go_num,rfl,hq,HA.out.step hs (by rw[HD1.out,HD2.out];have:=HS.out;omega),hown',hbel.trans hbel'⟩
       case measure=>simp[intOf];omega
     ·go_wp2_with (at_builtin;refine wp_app1 _ _ _ w.heap.size _ outs cr rfl hown hbel.size hol rfl rfl rfl rfl ?_;intro v' w' hown' _ hbel';obtain⟨zs,hz⟩:∃zs,zs=outs++[cr]:=⟨_,rfl⟩;rw[←hz]at hown';have HZ:=ZH hz;clear hz;obtain⟨A',c',rfl,hr⟩:=hown'.rd (by rw[HZ.out];exact HA.out.1.append (Ok.cons (by omega) Ok.nil)));refine(fit_any A' c' zs _ hr (by rw[HZ.out];have:=HA.out.2.1;simp;omega)).mono ?_;rintro e w2 ⟨⟨A2,c2,rfl,hr2⟩,hb2⟩;go_wp2;go_ret2;have hv:=HA.out.last (by omega) (by omega);rw[←HZ.out]at hv;rw[HE.out];have e1:val zs=val xs+val ys:=by rw[hv,Nat.add_comm]
      rw[←e1];exact⟨⟨A2,c2,rfl,hr2⟩,(hbel.trans hbel').trans (hb2.mono (hbel.trans hbel').size)⟩
   ·go_enter Tryz.func129,Tryz.ntmps129;go_wp2_with (first
     |(go_at_call 168;refine(right_any _ _ _ _ (by first|exact ha|exact hb)).mono ?_;rintro e w' ⟨rfl,rfl⟩)
     |(at_make;refine wp_make0 _ _ _ (xs.length+1) (by omega) (by omega) rfl rfl rfl rfl ?_;intro w1 hown1 hbel1))
    go_loopw [6,7,32] (fun v cv i wr=>∃(k:Nat)(outs:List Nat)(cr:Nat),k≤xs.length∧i= .int .i64 k∧cv= .int .u32 cr∧cr≤1∧AddTo xs ys k outs cr∧Own wr w.heap.size v outs∧Below w.heap.size w wr) (fun _ _ i _=>xs.length-(intOf i).toNat)
    case atStart=>exact⟨0,[],0,by omega,rfl,rfl,by omega,AddTo.zero _ _,hown1,hbel1⟩
    case round=>
     obtain⟨k,outs,cr,hk,rfl,rfl,hcr,hadd,hown,hbel⟩:=hrel;have hol:outs.length≤1000000:=by have:=hadd.2.1;omega
     have HA:=ZH hadd;clear hadd hown1 hbel1;by_cases hlt:k<xs.length
     ·obtain⟨b1,o1,rfl,hb1,hc1⟩:=ha.at_ (by rintro rfl;simp at hlt);have h1:wr.cell? ⟨b1,o1+k,none⟩=some (.int .u32 (xs[k]'hlt)):=(hbel.cell (p:=⟨b1,o1+k,none⟩) hb1).trans (hc1 k hlt);have hd1:=ha.ok.get hlt;have HD1:=ZH (at0_in hlt);clear hc1;by_cases hlq:k<ys.length
      ·obtain⟨b2,o2,rfl,hb2,hc2⟩:=hb.at_ (by rintro rfl;simp at hlq);have h2:wr.cell? ⟨b2,o2+k,none⟩=some (.int .u32 (ys[k]'hlq)):=(hbel.cell (p:=⟨b2,o2+k,none⟩) hb2).trans (hc2 k hlq);have hd2:=hb.ok.get hlq;have HD2:=ZH (at0_in hlq);clear hc2;go_wp2_with (first
        |(go_at_call 169;refine(add32_any _ _ _ _ (by omega) (by omega) (by omega) (by omega) (by omega) (by omega)).mono ?_;rintro e w' ⟨⟨s,q,rfl,hs,hq,hsum⟩,rfl⟩;have HS:=ZH hsum;clear hsum)
        |(at_builtin;refine wp_app1 _ _ _ w.heap.size _ outs s rfl hown hbel.size hol rfl rfl rfl rfl ?_;intro v' w' hown' _ hbel'))
       go_roundw
       case rel=>exact⟨k+1,_,q,by omega,by go_num,rfl,hq,HA.out.step hs (by rw[HD1.out,HD2.out];have:=HS.out;omega),hown',hbel.trans hbel'⟩
       case measure=>simp[intOf];omega
      ·have HD2:=ZH (at0_out hlq);go_wp2_with (first
        |(go_at_call 169;refine(add32_any _ _ _ _ (by omega) (by omega) (by omega) (by omega) (by omega) (by omega)).mono ?_;rintro e w' ⟨⟨s,q,rfl,hs,hq,hsum⟩,rfl⟩;have HS:=ZH hsum;clear hsum)
        |(at_builtin;refine wp_app1 _ _ _ w.heap.size _ outs s rfl hown hbel.size hol rfl rfl rfl rfl ?_;intro v' w' hown' _ hbel'))
       go_roundw
       case rel=>exact⟨k+1,_,q,by omega,by go_num,rfl,hq,HA.out.step hs (by rw[HD1.out,HD2.out];have:=HS.out;omega),hown',hbel.trans hbel'⟩
       case measure=>simp[intOf];omega
     ·go_wp2_with (at_builtin;refine wp_app1 _ _ _ w.heap.size _ outs cr rfl hown hbel.size hol rfl rfl rfl rfl ?_;intro v' w' hown' _ hbel';obtain⟨zs,hz⟩:∃zs,zs=outs++[cr]:=⟨_,rfl⟩;rw[←hz]at hown';have HZ:=ZH hz;clear hz;obtain⟨A',c',rfl,hr⟩:=hown'.rd (by rw[HZ.out];exact HA.out.1.append (Ok.cons (by omega) Ok.nil)));refine(fit_any A' c' zs _ hr (by rw[HZ.out];have:=HA.out.2.1;simp;omega)).mono ?_;rintro e w2 ⟨⟨A2,c2,rfl,hr2⟩,hb2⟩;go_wp2;go_ret2;have hv:=HA.out.last (by omega) (by omega);rw[←HZ.out]at hv;rw[HE.out];have e1:val zs=val xs+val ys:=by rw[hv]
      rw[←e1];exact⟨⟨A2,c2,rfl,hr2⟩,(hbel.trans hbel').trans (hb2.mono (hbel.trans hbel').size)⟩
  ·have h2':rightB ys=false:=by simpa using h2
   clear h2;have HE:=ZH (addR_no (xs:=xs) (ys:=ys) (by rw[h2'];simp));go_enter Tryz.func129,Tryz.ntmps129;go_wp2_with (go_at_call 168;refine(right_any _ _ _ _ (by first|exact ha|exact hb)).mono ?_;rintro e w' ⟨rfl,rfl⟩);go_ret2;rw[HE.out];exact⟨⟨none,0,rfl,Rd.nil⟩,Below.refl _ _⟩
 ·have h1':rightB xs=false:=by simpa using h1
  clear h1;have HE:=ZH (addR_no (xs:=xs) (ys:=ys) (by rw[h1'];simp));go_enter Tryz.func129,Tryz.ntmps129;go_wp2_with (go_at_call 168;refine(right_any _ _ _ _ (by first|exact ha|exact hb)).mono ?_;rintro e w' ⟨rfl,rfl⟩);go_ret2;rw[HE.out];exact⟨⟨none,0,rfl,Rd.nil⟩,Below.refl _ _⟩
theorem cmpN_neg {m n:Nat}:((cmpN m n)<0)↔m<n:=by
 unfold cmpN;split
 ·simp[*]
 ·split<;>simp<;>omega
theorem cmpN_neg_b {m n:Nat}(h:¬m<n):0≤cmpN m n:=by
 unfold cmpN;rw[if_neg h];split<;>simp
theorem cmpN_pos_b {m n:Nat}(h:m<n):cmpN m n<0:=by
 unfold cmpN;rw[if_pos h];decide
theorem sub_any (A B:Option Addr)(c d:Nat)(xs ys:List Nat)(w:World)(ha:Rd w A c xs)(hb:Rd w B d ys):Calls Tryz.prog 131 #[.slice A xs.length c,.slice B ys.length d] w fun e w'=>RetSE w w' e (subR xs ys):=by
 by_cases h1:rightB xs=true
 ·by_cases h2:rightB ys=true
  ·have hl1:=right_len h1;have hl2:=right_len h2;have hd1:=right_dig ha.ok h1;have hd2:=right_dig hb.ok h2;have HO:=fun w' ha' hb'=>order_any A B c d (val xs) (val ys) w' ha' hb' (by rw[hd1];omega) (by rw[hd2];omega);rw[hd1,hd2]at HO;have HO:=ZH HO;by_cases hlt:val xs<val ys
   ·have HE:=ZH (subR_no (xs:=xs) (ys:=ys) (by rw[h1,h2,dF (by omega)];rfl));have hn:=cmpN_pos_b hlt;clear hd1 hd2 hlt;go_enter Tryz.func131,Tryz.ntmps131;go_wp2_with (first
     |(go_at_call 168;refine(right_any _ _ _ _ (by first|exact ha|exact hb)).mono ?_;rintro e w' ⟨rfl,rfl⟩)
     |(go_at_call 171;refine(HO.out _ ha hb).mono ?_;rintro e w' ⟨rfl,k,rfl⟩))
    go_ret2;rw[HE.out];exact⟨⟨none,0,rfl,Rd.nil⟩,(Read.refl w).drewN k|>.below _⟩
   ·have HE:=ZH (subR_eq h1 h2 (by omega));have hn:=cmpN_neg_b hlt;have hlen:ys.length≤xs.length:=by rw[←hd1,←hd2];exact dig_len_mono (by omega)
    have hge:val ys≤val xs:=by omega
    clear hd1 hd2 hlt;go_enter Tryz.func131,Tryz.ntmps131;go_wp2_with (first
     |(go_at_call 168;refine(right_any _ _ _ _ (by first|exact ha|exact hb)).mono ?_;rintro e w' ⟨rfl,rfl⟩)
     |(go_at_call 171;refine(HO.out _ ha hb).mono ?_;rintro e w' ⟨rfl,q0,rfl⟩)
     |(at_make;refine wp_make0 _ _ _ xs.length (by omega) (by omega) rfl rfl rfl rfl ?_;intro w1 hown1 hbel1))
    have hbel2:Below w.heap.size w w1:=((Read.refl w).drewN q0|>.below _).trans hbel1;go_loopw [6,7,30] (fun v cv i wr=>∃(k:Nat)(outs:List Nat)(cr:Nat),k≤xs.length∧i= .int .i64 k∧cv= .int .u32 cr∧cr≤1∧SubTo xs ys k outs cr∧Own wr w.heap.size v outs∧Below w.heap.size w wr) (fun _ _ i _=>xs.length-(intOf i).toNat)
    case atStart=>exact⟨0,[],0,by omega,rfl,rfl,by omega,SubTo.zero _ _,hown1,hbel2⟩
    case round=>
     obtain⟨k,outs,cr,hk,rfl,rfl,hcr,hadd,hown,hbel⟩:=hrel;have hol:outs.length≤1000000:=by have:=hadd.2.1;omega
     have HA:=ZH hadd;clear hadd hown1 hbel1 hbel2;by_cases hlt:k<xs.length
     ·obtain⟨b1,o1,rfl,hb1,hc1⟩:=ha.at_ (by rintro rfl;simp at hlt);have h1:wr.cell? ⟨b1,o1+k,none⟩=some (.int .u32 (xs[k]'hlt)):=(hbel.cell (p:=⟨b1,o1+k,none⟩) hb1).trans (hc1 k hlt);have hd1:=ha.ok.get hlt;have HD1:=ZH (at0_in hlt);clear hc1;by_cases hlq:k<ys.length
      ·obtain⟨b2,o2,rfl,hb2,hc2⟩:=hb.at_ (by rintro rfl;simp at hlq);have h2:wr.cell? ⟨b2,o2+k,none⟩=some (.int .u32 (ys[k]'hlq)):=(hbel.cell (p:=⟨b2,o2+k,none⟩) hb2).trans (hc2 k hlq);have hd2:=hb.ok.get hlq;have HD2:=ZH (at0_in hlq);clear hc2;go_wp2_with (first
        |(go_at_call 172;refine(sub32_any _ _ _ _ (by omega) (by omega) (by omega) (by omega) (by omega) (by omega)).mono ?_;rintro e w' ⟨⟨s,q,rfl,hs,hq,hsum⟩,rfl⟩;have HS:=ZH hsum;clear hsum)
        |(at_builtin;refine wp_app1 _ _ _ w.heap.size _ outs s rfl hown hbel.size hol rfl rfl rfl rfl ?_;intro v' w' hown' _ hbel'))
       go_roundw
       case rel=>exact⟨k+1,_,q,by omega,by go_num,rfl,hq,HA.out.step hs (by rw[HD1.out,HD2.out];have:=HS.out;omega),hown',hbel.trans hbel'⟩
       case measure=>simp[intOf];omega
      ·have HD2:=ZH (at0_out hlq);go_wp2_with (first
        |(go_at_call 172;refine(sub32_any _ _ _ _ (by omega) (by omega) (by omega) (by omega) (by omega) (by omega)).mono ?_;rintro e w' ⟨⟨s,q,rfl,hs,hq,hsum⟩,rfl⟩;have HS:=ZH hsum;clear hsum)
        |(at_builtin;refine wp_app1 _ _ _ w.heap.size _ outs s rfl hown hbel.size hol rfl rfl rfl rfl ?_;intro v' w' hown' _ hbel'))
       go_roundw
       case rel=>exact⟨k+1,_,q,by omega,by go_num,rfl,hq,HA.out.step hs (by rw[HD1.out,HD2.out];have:=HS.out;omega),hown',hbel.trans hbel'⟩
       case measure=>simp[intOf];omega
     ·obtain⟨A',c',rfl,hr⟩:=hown.rd HA.out.1;go_wp2_with (go_at_call 170;refine(fit_any A' c' outs _ hr hol).mono ?_;rintro e w2 ⟨⟨A2,c2,rfl,hr2⟩,hb2⟩);go_ret2;have hv:=HA.out.done (by omega) (by omega) (by omega);rw[hv]at hr2⊢;have HF:fitR (val xs-val ys)=(dig (val xs-val ys),0):=by
       have:(dig (val xs-val ys)).length≤256:=by
        have h3:=dig_len_mono (m:=val xs-val ys) (n:=val xs) (by omega);have h4:=dig_len_le xs ha.ok;omega
       simp[fitR,this]
      rw[HF]at hr2⊢;rw[HE.out];exact⟨⟨A2,c2,rfl,hr2⟩,hbel.trans (hb2.mono hbel.size)⟩
  ·have h2':rightB ys=false:=by simpa using h2
   clear h2;have HE:=ZH (subR_no (xs:=xs) (ys:=ys) (by rw[h2'];simp));go_enter Tryz.func131,Tryz.ntmps131;go_wp2_with (go_at_call 168;refine(right_any _ _ _ _ (by first|exact ha|exact hb)).mono ?_;rintro e w' ⟨rfl,rfl⟩);go_ret2;rw[HE.out];exact⟨⟨none,0,rfl,Rd.nil⟩,Below.refl _ _⟩
 ·have h1':rightB xs=false:=by simpa using h1
  clear h1;have HE:=ZH (subR_no (xs:=xs) (ys:=ys) (by rw[h1'];simp));go_enter Tryz.func131,Tryz.ntmps131;go_wp2_with (go_at_call 168;refine(right_any _ _ _ _ (by first|exact ha|exact hb)).mono ?_;rintro e w' ⟨rfl,rfl⟩);go_ret2;rw[HE.out];exact⟨⟨none,0,rfl,Rd.nil⟩,Below.refl _ _⟩
def mulR (xs ys:List Nat):List Nat×Int:=if rightB xs&&rightB ys then fitR (val xs*val ys) else([],2)
theorem mulR_eq {xs ys:List Nat}(h1:rightB xs=true)(h2:rightB ys=true):mulR xs ys=fitR (val xs*val ys):=by simp[mulR,h1,h2]
theorem mulR_no {xs ys:List Nat}(h:(rightB xs&&rightB ys)=false):mulR xs ys=([],2):=by simp[mulR,h]
theorem digits_mul {a b:Nat}(ha:a<4294967296)(hb:b<4294967296):∃M:Nat,(a:Int)*(b:Int)=(M:Int)∧M=a*b∧M≤18446744065119617025:=by
 refine⟨a*b,(Int.natCast_mul _ _).symm,rfl,?_⟩;exact Nat.mul_le_mul (Nat.le_of_lt_succ ha) (Nat.le_of_lt_succ hb)
theorem mul_any (A B:Option Addr)(c d:Nat)(xs ys:List Nat)(w:World)(ha:Rd w A c xs)(hb:Rd w B d ys):Calls Tryz.prog 165 #[.slice A xs.length c,.slice B ys.length d] w fun e w'=>RetSE w w' e (mulR xs ys):=by
 by_cases h1:rightB xs=true
 ·by_cases h2:rightB ys=true
  ·have hl1:=right_len h1;have hl2:=right_len h2;have HE:=ZH (mulR_eq h1 h2);go_enter Tryz.func165,Tryz.ntmps165;go_wp2_with (first
    |(go_at_call 168;refine(right_any _ _ _ _ (by first|exact ha|exact hb)).mono ?_;rintro e w' ⟨rfl,rfl⟩)
    |(at_make;refine wp_makeN _ _ _ (xs.length+ys.length) (by omega) (by omega) (by omega) rfl rfl rfl rfl ?_;intro w1 hrow1 hbel1))
   go_loopw [28] (fun i wr=>∃(k:Nat)(os:List Nat),k≤xs.length∧i= .int .i64 k∧MulOut xs ys k os∧Row wr w.heap.size os∧Below w.heap.size w wr) (fun i _=>xs.length-(intOf i).toNat)
   case atStart=>exact⟨0,_,by omega,rfl,MulOut.zero xs ys,hrow1,hbel1⟩
   case round=>
    obtain⟨i,os,hi,rfl,hmo,hrow,hbel⟩:=hrel;clear hrow1 hbel1;have HM:=ZH hmo;clear hmo;by_cases hlt:i<xs.length
    ·obtain⟨b1,o1,rfl,hb1,hc1⟩:=ha.at_ (by rintro rfl;simp at hlt);have g1:wr.cell? ⟨b1,o1+i,none⟩=some (.int .u32 (xs[i]'hlt)):=(hbel.cell (p:=⟨b1,o1+i,none⟩) hb1).trans (hc1 i hlt);have hd1:=ha.ok.get hlt;have HD1:=ZH (at0_in hlt);clear hc1;generalize hxi:xs[i]=di at*;clear hxi;go_wp2;clear g1;go_loopw [9,35] (fun cv j wq=>∃(k:Nat)(os:List Nat)(cr:Nat),k≤ys.length∧j= .int .i64 k∧cv= .int .u64 cr∧MulIn xs ys i di k os cr∧Row wq w.heap.size os∧Below w.heap.size w wq) (fun _ j _=>ys.length-(intOf j).toNat)
     case atStart=>exact⟨0,os,0,by omega,rfl,rfl,HM.out.into,hrow,hbel⟩
     case round=>
      obtain⟨k,os,cr,hk,rfl,rfl,hmi,hrow2,hbel2⟩:=hrel;clear hrow hbel;have hol:=hmi.2.1;have hok:=hmi.1;have hcr:=hmi.2.2.1;have HI:=ZH hmi;have HOL:=ZH hol;clear hmi hol;by_cases hlk:k<ys.length
      ·obtain⟨b2,o2,rfl,hb2,hc2⟩:=hb.at_ (by rintro rfl;simp at hlk);have g2:wr.cell? ⟨b2,o2+k,none⟩=some (.int .u32 (ys[k]'hlk)):=(hbel2.cell (p:=⟨b2,o2+k,none⟩) hb2).trans (hc2 k hlk);have hd2:=hb.ok.get hlk;have HD2:=ZH (at0_in hlk);clear hc2;have hik:i+k<os.length:=by have:=HOL.out;omega
       have g3:=hrow2.cell hik;have g4:=hrow2.frozen (i+k);have hd3:=hok.get hik;obtain⟨M,hM,hMn,hMb⟩:=digits_mul hd1 hd2;have HMn:=ZH hMn;clear hMn;generalize hyk:ys[k]=ek at*;clear hyk;generalize hoik:os[i+k]=oik at*;have HO:=ZH hoik;clear hoik;go_wp2;go_roundw
       case rel=>exact⟨k+1,os.set (i+k) ((cr+(M+oik))%4294967296),(cr+(M+oik))/4294967296,by omega,by go_num,by go_num,HI.out.step hlt hlk hik (by omega) (by omega) (by rw[HD2.out,HO.out,←HMn.out];omega),hrow2.set (i+k) _ (by omega),hbel2.setCell ZL _⟩
       case measure=>simp[intOf];omega
      ·have hkl:k=ys.length:=by omega
       subst hkl;have hik:i+ys.length<os.length:=by have:=HOL.out;omega
       have g3:=hrow2.cell hik;have g4:=hrow2.frozen (i+ys.length);clear hk hlk;go_wp2;go_roundw
       case rel=>
        have h7:=HI.out;rw[←HD1.out]at h7;exact⟨i+1,os.set (i+ys.length) cr,by omega,by go_num,h7.out hlt rfl hik,hrow2.set (i+ys.length) _ (by omega),hbel2.setCell ZL _⟩
       case measure=>simp[intOf];omega
    ·have hil:i=xs.length:=by omega
     subst hil;have hlen:os.length=xs.length+ys.length:=HM.out.2.1;have HR:=hrow.rd HM.out.1 (by omega);rw[hlen]at HR;have HF:∀w',Rd w' (some ⟨w.heap.size,0,none⟩) (xs.length+ys.length) os→Calls Tryz.prog 170 #[.slice (some ⟨w.heap.size,0,none⟩) (xs.length+ys.length) (xs.length+ys.length)] w' fun e w2=>RetSE w' w2 e (fitR (val os)):=by
      intro w' h;have:=fit_any _ _ _ w' h (by omega);rw[hlen]at this;exact this
     have HF:=ZH HF;clear hlen hlt hi;go_wp2_with (go_at_call 170;refine(HF.out _ HR).mono ?_;rintro e w2 ⟨⟨A2,c2,rfl,hr2⟩,hb2⟩);go_ret2;rw[HM.out.done rfl]at hr2⊢;rw[HE.out];exact⟨⟨A2,c2,rfl,hr2⟩,hbel.trans (hb2.mono hbel.size)⟩
  ·have h2':rightB ys=false:=by simpa using h2
   clear h2;have HE:=ZH (mulR_no (xs:=xs) (ys:=ys) (by rw[h2'];simp));go_enter Tryz.func165,Tryz.ntmps165;go_wp2_with (go_at_call 168;refine(right_any _ _ _ _ (by first|exact ha|exact hb)).mono ?_;rintro e w' ⟨rfl,rfl⟩);go_ret2;rw[HE.out];exact⟨⟨none,0,rfl,Rd.nil⟩,Below.refl _ _⟩
 ·have h1':rightB xs=false:=by simpa using h1
  clear h1;have HE:=ZH (mulR_no (xs:=xs) (ys:=ys) (by rw[h1'];simp));go_enter Tryz.func165,Tryz.ntmps165;go_wp2_with (go_at_call 168;refine(right_any _ _ _ _ (by first|exact ha|exact hb)).mono ?_;rintro e w' ⟨rfl,rfl⟩);go_ret2;rw[HE.out];exact⟨⟨none,0,rfl,Rd.nil⟩,Below.refl _ _⟩
end Go.Proofs.YtecfcjdgmpopjaaGreat

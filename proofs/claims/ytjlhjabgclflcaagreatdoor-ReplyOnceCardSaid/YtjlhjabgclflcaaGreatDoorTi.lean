import Derived.Test.YtjlhjabgclflcaaGreatDoorTh
set_option maxHeartbeats 4000000
set_option maxRecDepth 100000
set_option linter.unusedSimpArgs false
set_option linter.unusedVariables false
namespace Go.Proofs.YtjlhjabgclflcaaGreatDoor
open Go.RowKit Num
def numD (a:Nat) (l:List UInt8):Nat:=l.foldl (fun a c=>a*10+(c.toNat-48)) a
theorem numD_cons (a:Nat) (c:UInt8) (l:List UInt8):numD a (c::l)=numD (a*10+(c.toNat-48)) l:=by
 unfold numD;rw[List.foldl_cons]
theorem numD_le (l:List UInt8):∀a,a≤numD a l:=by
 induction l with
 |nil=>exact fun a=>Nat.le_refl _
 |cons c l ih=>
  intro a;have:=ih (a*10+(c.toNat-48));rw[numD_cons];omega
theorem numD_split (l:List UInt8) (j:Nat) (a:Nat):numD a l=numD (numD a (l.take j)) (l.drop j):=by
 unfold numD;rw[←List.foldl_append,List.take_append_drop]
theorem numD_take {l:List UInt8} {j:Nat} (h:j<l.length):numD 0 (l.take (j+1))=numD 0 (l.take j)*10+(l[j].toNat-48):=by
 unfold numD;rw[List.take_succ_eq_append_getElem h,List.foldl_append];rfl
theorem parseU {M:Nat} (hM:M=18446744073709551615) (l:List UInt8):(∀c∈l,isDigit c=true)→∀a,a≤M→Lib.parseUintM M a l=if numD a l≤M then .ok (numD a l) else .range:=by
 subst hM;induction l with
 |nil=>
  intro _ a ha;rw[Lib.parseUintM];rw[if_pos (by exact ha)];rfl
 |cons c l ih=>
  intro hd a ha;have hc:=(class_eq (c:=c) rfl).2.1 (hd c (List.mem_cons_self));have hle:=numD_le l (a*10+(c.toNat-48));rw[Lib.parseUintM,if_pos hc,numD_cons];by_cases h1:1844674407370955162≤a
  ·rw[if_pos h1,if_neg (by omega)]
  ·rw[if_neg h1];by_cases h2:18446744073709551615<a*10+(c.toNat-48)
   ·rw[if_pos h2,if_neg (by omega)]
   ·rw[if_neg h2,ih (fun d h=>hd d (List.mem_cons_of_mem _ h)) _ (by omega)]
def vR (l:List UInt8):Int×Bool:=match Lib.parseIntB 64 l with
 | .ok v=>(v,true)
 |_=>(0,false)
theorem vR_eq (neg:Bool) (ds:List UInt8) (hne:ds≠[]) (hd:∀c∈ds,isDigit c=true):vR (if neg then 45::ds else ds)=if-9223372036854775808≤sv neg (dig (numD 0 ds))∧sv neg (dig (numD 0 ds))<9223372036854775808 then (sv neg (dig (numD 0 ds)),true) else (0,false):=by
 have hu:Lib.parseUintB 64 ds=if numD 0 ds≤18446744073709551615 then .ok (numD 0 ds) else .range:=by
  unfold Lib.parseUintB;rw[if_neg hne];exact parseU rfl ds hd 0 (by decide)
 unfold vR sv;rw[val_dig];cases neg with
 |true=>
  rw[if_pos rfl,if_pos rfl];unfold Lib.parseIntB;simp only;rw[if_pos (by decide),hu];by_cases h1:numD 0 ds≤18446744073709551615
  ·rw[if_pos h1];simp only;rw[if_neg (by intro h;exact h.1 rfl)];by_cases h2:2^(64-1)<numD 0 ds
   ·rw[if_pos ⟨rfl,h2⟩,if_neg (by intro h;have:=h.1;simp at h2;omega)]
   ·rw[if_neg (fun h=>h2 h.2),if_pos (show UInt8.toNat 45=45 from rfl),if_pos (by simp at h2;omega)]
  ·rw[if_neg h1,if_neg (by omega)]
 |false=>
  simp only[Bool.false_eq_true,if_false];cases ds with
  |nil=>exact absurd rfl hne
  |cons c r=>
   have hc:=(class_eq (c:=c) rfl).2.1 (hd c (List.mem_cons_self));unfold Lib.parseIntB;simp only;rw[if_neg (by omega),hu];by_cases h1:numD 0 (c::r)≤18446744073709551615
   ·rw[if_pos h1];simp only;by_cases h2:2^(64-1)≤numD 0 (c::r)
    ·rw[if_pos ⟨by omega,h2⟩,if_neg (by intro h;have:=h.2;simp at h2;omega)]
    ·rw[if_neg (fun h=>h2 h.2),if_neg (fun h=>by omega),if_neg (by omega:¬c.toNat=45),if_pos (by simp at h2;omega)]
   ·rw[if_neg h1,if_neg (by omega)]
theorem vR_small (neg:Bool) (ds:List UInt8) (hne:ds≠[]) (hd:∀c∈ds,isDigit c=true) (hl:(dig (numD 0 ds)).length≤3):vR (if neg then 45::ds else ds)=((ssmallR (sN (sv neg (dig (numD 0 ds)))) (sD (sv neg (dig (numD 0 ds))))).1,(ssmallR (sN (sv neg (dig (numD 0 ds)))) (sD (sv neg (dig (numD 0 ds))))).2==0):=by
 rw[vR_eq neg ds hne hd];unfold ssmallR;rw[if_pos (sright_sd (by unfold sD;rw[sv_abs,val_dig];omega)),sv_sd];split
 ·rfl
 ·rfl
theorem vR_big (neg:Bool) (ds:List UInt8) (hne:ds≠[]) (hd:∀c∈ds,isDigit c=true) {x:Nat} (hx:x≤numD 0 ds) (hl:3<(dig x).length):vR (if neg then 45::ds else ds)=(0,false):=by
 rw[vR_eq neg ds hne hd,if_neg];have h1:¬x<4294967296^3:=fun h=>by
  have:=dig_length_le h;omega
 unfold sv;rw[val_dig];have h2:(4294967296:Nat)^3=79228162514264337593543950336:=by decide
 rw[h2]at h1;cases neg<;>simp<;>omega
theorem zn_false (x:Nat):zn false x=(x:Int):=rfl
theorem times10 {x y:Nat} {A B:Option Addr} {c d:Nat} {w:World} (ha:Rd w A c (dig x)) (hb:Rd w B d (dig y)) (hx:(dig x).length≤3) (hy:y≤10):Calls Tryz.prog 83 #[iv false A (dig x).length c,iv false B (dig y).length d] w fun e w'=>RetN w w' e (false,dig (x*y)):=by
 have hy1:(dig y).length≤1:=dig_length_le (by omega);have h:=times_eq (n:=false) (m:=false) (by rw[val_dig]) (by rw[val_dig]) ha hb (by omega) (by omega);rw[val_dig,val_dig,zn_false,zn_false,←Int.natCast_mul]at h;exact h
theorem sumdig {x y:Nat} {A B:Option Addr} {c d:Nat} {w:World} (ha:Rd w A c (dig x)) (hb:Rd w B d (dig y)) (hx:(dig x).length≤5) (hy:y≤10):Calls Tryz.prog 82 #[iv false A (dig x).length c,iv false B (dig y).length d] w fun e w'=>RetN w w' e (false,dig (x+y)):=by
 have hy1:(dig y).length≤1:=dig_length_le (by omega);have h:=sum_eq (n:=false) (m:=false) (by rw[val_dig]) (by rw[val_dig]) ha hb (by omega) (by omega);rw[val_dig,val_dig,zn_false,zn_false,←Int.natCast_add]at h;exact h
theorem ofdig {z:Int} {y:Nat} (hz:z=(y:Int)) (hy:y≤10) (w:World):Calls Tryz.prog 84 #[.int .i64 z] w fun e w'=>RetN w w' e (false,dig y):=by
 subst hz;exact rsof_any (y:Int) w (by omega) (by omega)
theorem len10 {x y:Nat} (h:(dig x).length≤3) (hy:y≤10):(dig (x*y)).length≤4:=by
 have h1:x<4294967296^3:=le_of_dig_length h;refine dig_length_le ?_;have h2:(4294967296:Nat)^3=79228162514264337593543950336:=by decide
 have h3:(4294967296:Nat)^4=340282366920938463463374607431768211456:=by decide
 have h4:x*y≤x*10:=Nat.mul_le_mul_left x hy;omega
theorem rvalue_pos {S:ByteArray} {ds:List UInt8} (w:World) (hl:S.data.toList=ds) (hne:ds≠[]) (hd:∀c∈ds,isDigit c=true) (hs:S.size≤8192):Calls Tryz.prog 60 #[.string S] w fun e w'=>e= .returned (.tuple #[.int .i64 (vR ds).1,.bool (vR ds).2])∧Below w.heap.size w w':=by
 have hsz:S.size=ds.length:=by rw[←hl];simp
 have hpos:0<S.size:=by rw[hsz];exact List.length_pos_iff.2 hne
 have hget:∀j (h:j<S.size),isDigit S[j]=true:=fun j h=>hd _ (by rw[←hl];simp[ByteArray.getElem_eq_getElem_data]);have htk:∀j (h:j<S.size),numD 0 (ds.take (j+1))=numD 0 (ds.take j)*10+(S[j].toNat-48):=fun j h=>by
  subst hl;rw[numD_take (by simpa using h)];simp[ByteArray.getElem_eq_getElem_data]
 have b1:((S[0].toNat:Int)==45)=false:=by
  have:=(class_eq (c:=S[0]) rfl).2.1 (hget 0 hpos);simp;omega
 have HG:=Lib.hid hget;have HT:=Lib.hid htk;have HV:=Lib.hid (vR_small false ds hne hd);have HB:=Lib.hid (fun x hx hl=>vR_big false ds hne hd (x:=x) hx hl);have HS:=Lib.hid hsz;clear hget htk hsz;go_enter Tryz.func60,Tryz.ntmps60;go_wp2_with fail;have M:Mem w (w.alloc (.cells #[.bool false,.slice none 0 0] 131)) [(w.heap.size,131,#[.bool false,.slice none (dig 0).length 0])] [(none,0,dig 0)]:=((Mem.start w).new 131 #[.bool false,.slice none 0 0]).addR Rd.nil;go_loopg [6] S.size (fun k v wr=>∃j x A c,k=S.size-j∧j≤S.size∧v= .int .i64 (j:Nat)∧Hid (x=numD 0 (ds.take j))∧(dig x).length≤3∧Mem w wr [(w.heap.size,131,#[.bool false,.slice A (dig x).length c])] [(A,c,dig x)])
 case atStart=>exact ⟨0,0,none,0,rfl,Nat.zero_le _,rfl,rfl,by decide,M⟩
 case round=>
  clear M;obtain ⟨m,x,A,c,hk,hj,rfl,hx,hx3,M⟩:=hrel;by_cases hlt:m<S.size
  ·have d1:decide ((m:Int)<(S.size:Int))=true:=decide_eq_true (by omega);have hq:=(class_eq (c:=S[m]) rfl).2.1 (HG.out m hlt);have hx2:x*10+(S[m].toNat-48)=numD 0 (ds.take (m+1)):=by rw[HT.out m hlt,←hx.out]
   have HX:=Lib.hid hx2;have hz:IntKind.i64.wrap (IntKind.u8.wrap ((S[m].toNat:Int)-48))=((S[m].toNat-48:Nat):Int):=by rw[IntWalk.u8_in _ ⟨by omega,by omega⟩,IntWalk.i64_in _ ⟨by omega,by omega⟩];omega
   have HZ:=Lib.hid hz;have hq9:S[m].toNat-48≤9:=by omega
   have h4:=len10 hx3 (y:=10) (Nat.le_refl _);obtain ⟨q,hqq⟩:∃q,S[m].toNat-48=q:=⟨_,rfl⟩;rw[hqq]at HX HZ hq9;clear hz hqq hx2;go_upto_region 8 with fail;refine region_st (n:=11) (frame:= ?frame1) (fun jK=>[.val (.fix (.agg #[.bool false,.slice A (dig x).length c])),.val (.num false (dig 10)),.val (.num false (dig (x*10))),.val (.fix (.string S)),.val (.fix (.int .i64 (m:Nat))),.val (.fix (.int .u8 (S[m].toNat:Nat))),.val (.fix (.int .u8 (IntKind.u8.wrap ((S[m].toNat:Int)-48)))),.val (.fix (.int .i64 (IntKind.i64.wrap (IntKind.u8.wrap ((S[m].toNat:Int)-48))))),.val (.num false (dig q)),.val (.num false (dig (x*10+q))),.none].getD jK .none) [⟨w.heap.size,10,131,#[.bool false,.slice A (dig x).length c],.num false (dig (x*10+q))⟩] (by kernel_rfl) (by kernel_rfl) (by kernel_rfl) rfl (Mem.tailK M) (own_of M (by omega) (by simp<;>omega) rfl) own_one ?_ ?_ ?_
   case refine_1=>
    intro s;simp only[fr,Act.put,List.append_eq,List.cons_append,List.nil_append,List.setIfInBounds_toArray,List.set_cons_zero,List.set_cons_succ,Nat.reduceAdd];rfl
   case refine_2=>
    refine SC 0 1 rfl ?_ (SC 1 2 rfl ?_ (SC 2 3 rfl ?_ (SC 3 4 rfl ?_ (SC 4 5 rfl ?_ (SC 5 6 rfl ?_ (SC 6 7 rfl ?_ (SC 7 8 rfl ?_ (SC 8 9 rfl ?_ (SC 9 10 rfl ?_ (SC 10 11 rfl ?_ Steps.nil))))))))));all_goals (intro L s w9 hN hU hi hS K hK;dsimp only at hK⊢;simp only[Act.put,List.setIfInBounds_toArray,List.set_cons_zero,List.set_cons_succ]at hK)
    ·obtain ⟨_,_,_,cs9,b9,_,z9,_⟩:=hS.own_at 0 rfl;obtain rfl:=z9 (hU.out 10 _ rfl rfl);obtain ⟨u1,u2,_,_⟩:=b9.both;go_simp;exact hK.out _ _ (hS.val rfl rfl (Below.refl _ _) rfl)
    ·go_simp;go_at_call 84;refine (ofdig (y:=10) rfl (Nat.le_refl _) _).mono ?_;rintro e9 w10 ⟨⟨A0,c0,rfl,h0⟩,q⟩;exact hK.out _ _ (hS.val rfl rfl q ⟨A0,c0,rfl,h0⟩)
    ·have e0:=hS.fx 0 rfl rfl (hN.out 0 rfl);simp only[e0]at hK⊢;obtain ⟨A1,c1,e1,h1⟩:=hS.val_at 1 rfl (by decide) (hN.out 1 rfl);simp only[e1]at hK⊢;go_simp;go_at_call 83;refine (times10 (hS.mem.r (i:=0) rfl) h1 hx3 (Nat.le_refl _)).mono ?_;rintro e9 w10 ⟨⟨A0,c0,rfl,h0⟩,q⟩;exact hK.out _ _ (hS.val rfl rfl q ⟨A0,c0,rfl,h0⟩)
    ·go_simp;exact hK.out _ _ (hS.val rfl rfl (Below.refl _ _) rfl)
    ·go_simp;exact hK.out _ _ (hS.val rfl rfl (Below.refl _ _) rfl)
    ·have e3:=hS.fx 3 rfl rfl (hN.out 3 rfl);simp only[e3]at hK⊢;have e4:=hS.fx 4 rfl rfl (hN.out 4 rfl);simp only[e4]at hK⊢;go_simp;exact hK.out _ _ (hS.val rfl rfl (Below.refl _ _) rfl)
    ·have e5:=hS.fx 5 rfl rfl (hN.out 5 rfl);simp only[e5]at hK⊢;go_simp;exact hK.out _ _ (hS.val rfl rfl (Below.refl _ _) rfl)
    ·have e6:=hS.fx 6 rfl rfl (hN.out 6 rfl);simp only[e6]at hK⊢;go_simp;exact hK.out _ _ (hS.val rfl rfl (Below.refl _ _) rfl)
    ·have e7:=hS.fx 7 rfl rfl (hN.out 7 rfl);simp only[e7]at hK⊢;go_simp;go_at_call 84;refine (ofdig HZ.out (by omega) _).mono ?_;rintro e9 w10 ⟨⟨A0,c0,rfl,h0⟩,q⟩;exact hK.out _ _ (hS.val rfl rfl q ⟨A0,c0,rfl,h0⟩)
    ·obtain ⟨A2,c2,e2,h2⟩:=hS.val_at 2 rfl (by decide) (hN.out 2 rfl);simp only[e2]at hK⊢;obtain ⟨A8,c8,e8,h8⟩:=hS.val_at 8 rfl (by decide) (hN.out 8 rfl);simp only[e8]at hK⊢;go_simp;go_at_call 82;refine (sumdig h2 h8 (by omega) (by omega)).mono ?_;rintro e9 w10 ⟨⟨A0,c0,rfl,h0⟩,q⟩;exact hK.out _ _ (hS.val rfl rfl q ⟨A0,c0,rfl,h0⟩)
    ·obtain ⟨A9,c9,e9,h9⟩:=hS.val_at 9 rfl (by decide) (hN.out 9 rfl);simp only[e9]at hK⊢;obtain ⟨_,_,_,cs9,b9,n9,z9,_⟩:=hS.own_at 0 rfl;obtain rfl:=z9 hi.out;refine ite_of rfl ?_;refine wp_store_row _ _ _ rfl (w.heap.size) _ rfl rfl _ _ b9 info_rint rfl (by rw[←Array.all_toList];rfl) ?_;simp only[Act.put];exact hK.out undef _ (hS.fillOwn (u:=undef) rfl (k:=0) rfl rfl rfl (setRow_grown _ _ _) (b9.row _) rfl ⟨A9,c9,rfl,h9⟩)
   intro L s w9 hall hS;obtain ⟨_,_,_,ocs,ob,on,_,oz⟩:=hS.own_at 0 rfl;obtain ⟨oA,oc,rfl,oh⟩:=oz (hall 10 (by decide));have M2:Mem w w9 [(w.heap.size,131,#[.bool false,.slice oA (dig (x*10+q)).length oc])] [(oA,oc,dig (x*10+q))]:=((hS.mem.addR oh).addK ob).sub (by simp) (by simp);clear hS hall oh ob M;obtain ⟨f1,f2,_,_⟩:=(M2.k (i:=0) rfl).both;by_cases hbig:3<(dig (x*10+q)).length
   ·have hfin:=HB.out _ (by rw[HX.out,numD_split ds (m+1) 0];exact numD_le _ _) hbig;have HF:=Lib.hid hfin;have d2:decide ((3:Int)<((dig (x*10+q)).length:Int))=true:=decide_eq_true (by omega);clear hfin HX HZ;generalize dig (x*10+q)=D at*;go_wp2;rw[show vR ds=(0,false) from HF.out];exact bodyPost_ret (v:= .tuple #[.int .i64 0,.bool false]) (by simp[results,Tryz.results60,go_sem]) rfl ⟨rfl,M2.bel⟩
   ·have d2:decide ((3:Int)<((dig (x*10+q)).length:Int))=false:=decide_eq_false (by omega);have hb3:(dig (x*10+q)).length≤3:=by omega
    go_wp2_with fail;go_roundg (S.size-(m+1))
    case measure=>omega
    case rel=>exact ⟨m+1,x*10+q,oA,oc,rfl,by omega,by simp,HX,hb3,M2⟩
  ·have d1:decide ((m:Int)<(S.size:Int))=false:=decide_eq_false (by omega);have hxe:x=numD 0 ds:=by
    have h1:=hx.out;rw[List.take_of_length_le (by have:=HS.out;omega)]at h1;exact h1
   have h3:(dig (numD 0 ds)).length≤3:=by rw[←hxe];exact hx3
   have hv:=HV.out h3;have hsv:sv false (dig (numD 0 ds))=((numD 0 ds:Nat):Int):=by unfold sv;rw[val_dig];rfl
   have hN:sN ((numD 0 ds:Nat):Int)=false:=by unfold sN;exact decide_eq_false (by omega)
   have hD:sD ((numD 0 ds:Nat):Int)=dig (numD 0 ds):=by unfold sD;rw[Int.natAbs_natCast]
   rw[hsv,hN,hD,←hxe]at hv;have HR:Hid (vR ds=((ssmallR false (dig x)).1,(ssmallR false (dig x)).2==0)):=hv;clear hv hsv hN hD hxe h3;obtain ⟨f1,f2,_,_⟩:=(M.k (i:=0) rfl).both;go_wp2_with fail;refine (rssmall_any _ _ _ _ _ (M.r (i:=0) rfl)).mono ?_;rintro e w5 ⟨rfl,q⟩;replace M:=M.below q;go_wp2;rw[HR.out];exact bodyPost_ret (v:= .tuple #[.int .i64 (ssmallR false (dig x)).1,.bool ((ssmallR false (dig x)).2==0)]) (by simp[results,Tryz.results60,go_sem]) rfl ⟨rfl,M.bel⟩
theorem rvalue_neg {s:ByteArray} {ds:List UInt8} (w:World) (hl:s.data.toList=45::ds) (hne:ds≠[]) (hd:∀c∈ds,isDigit c=true) (hs:s.size≤8192):Calls Tryz.prog 60 #[.string s] w fun e w'=>e= .returned (.tuple #[.int .i64 (vR (45::ds)).1,.bool (vR (45::ds)).2])∧Below w.heap.size w w':=by
 have hs1:s.size=ds.length+1:=by
  have h:=congrArg List.length hl;simpa using h
 have hp0:0<s.size:=by omega
 have h0:s[0]=45:=by
  have h:=get_list (R:=s) (k:=0) hp0;rw[hl]at h;injection h with h;exact h.symm
 have b1:((s[0].toNat:Int)==45)=true:=by rw[h0];rfl
 have hel:=ext_list s 1;rw[hl,List.drop_one,List.tail_cons]at hel;obtain ⟨S,hS⟩:∃S,S=s.extract 1 s.size:=⟨_,rfl⟩;rw[←hS]at hel;replace hl:=hel;clear hel;have hsz:S.size=ds.length:=by rw[←hl];simp
 have HSE:=Lib.hid hS;have hS8:S.size≤8192:=by omega
 have hle1:1≤s.size:=hp0;clear hS hs1;have hget:∀j (h:j<S.size),isDigit S[j]=true:=fun j h=>hd _ (by rw[←hl];simp[ByteArray.getElem_eq_getElem_data]);have htk:∀j (h:j<S.size),numD 0 (ds.take (j+1))=numD 0 (ds.take j)*10+(S[j].toNat-48):=fun j h=>by
  subst hl;rw[numD_take (by simpa using h)];simp[ByteArray.getElem_eq_getElem_data]
 have HG:=Lib.hid hget;have HT:=Lib.hid htk;have HV:=Lib.hid (vR_small true ds hne hd);have HB:=Lib.hid (fun x hx hl=>vR_big true ds hne hd (x:=x) hx hl);have HS:=Lib.hid hsz;clear hget htk hsz;go_enter Tryz.func60,Tryz.ntmps60;go_wp2_with fail;rw[←HSE.out];have M:Mem w (w.alloc (.cells #[.bool false,.slice none 0 0] 131)) [(w.heap.size,131,#[.bool false,.slice none (dig 0).length 0])] [(none,0,dig 0)]:=((Mem.start w).new 131 #[.bool false,.slice none 0 0]).addR Rd.nil;go_loopg [6] S.size (fun k v wr=>∃j x A c,k=S.size-j∧j≤S.size∧v= .int .i64 (j:Nat)∧Hid (x=numD 0 (ds.take j))∧(dig x).length≤3∧Mem w wr [(w.heap.size,131,#[.bool false,.slice A (dig x).length c])] [(A,c,dig x)])
 case atStart=>exact ⟨0,0,none,0,rfl,Nat.zero_le _,rfl,rfl,by decide,M⟩
 case round=>
  clear M;obtain ⟨m,x,A,c,hk,hj,rfl,hx,hx3,M⟩:=hrel;by_cases hlt:m<S.size
  ·have d1:decide ((m:Int)<(S.size:Int))=true:=decide_eq_true (by omega);have hq:=(class_eq (c:=S[m]) rfl).2.1 (HG.out m hlt);have hx2:x*10+(S[m].toNat-48)=numD 0 (ds.take (m+1)):=by rw[HT.out m hlt,←hx.out]
   have HX:=Lib.hid hx2;have hz:IntKind.i64.wrap (IntKind.u8.wrap ((S[m].toNat:Int)-48))=((S[m].toNat-48:Nat):Int):=by rw[IntWalk.u8_in _ ⟨by omega,by omega⟩,IntWalk.i64_in _ ⟨by omega,by omega⟩];omega
   have HZ:=Lib.hid hz;have hq9:S[m].toNat-48≤9:=by omega
   have h4:=len10 hx3 (y:=10) (Nat.le_refl _);obtain ⟨q,hqq⟩:∃q,S[m].toNat-48=q:=⟨_,rfl⟩;rw[hqq]at HX HZ hq9;clear hz hqq hx2;go_upto_region 8 with fail;refine region_st (n:=11) (frame:= ?frame2) (fun jK=>[.val (.fix (.agg #[.bool false,.slice A (dig x).length c])),.val (.num false (dig 10)),.val (.num false (dig (x*10))),.val (.fix (.string S)),.val (.fix (.int .i64 (m:Nat))),.val (.fix (.int .u8 (S[m].toNat:Nat))),.val (.fix (.int .u8 (IntKind.u8.wrap ((S[m].toNat:Int)-48)))),.val (.fix (.int .i64 (IntKind.i64.wrap (IntKind.u8.wrap ((S[m].toNat:Int)-48))))),.val (.num false (dig q)),.val (.num false (dig (x*10+q))),.none].getD jK .none) [⟨w.heap.size,10,131,#[.bool false,.slice A (dig x).length c],.num false (dig (x*10+q))⟩] (by kernel_rfl) (by kernel_rfl) (by kernel_rfl) rfl (Mem.tailK M) (own_of M (by omega) (by simp<;>omega) rfl) own_one ?_ ?_ ?_
   case refine_1=>
    intro s;simp only[fr,Act.put,List.append_eq,List.cons_append,List.nil_append,List.setIfInBounds_toArray,List.set_cons_zero,List.set_cons_succ,Nat.reduceAdd];rfl
   case refine_2=>
    refine SC 0 1 rfl ?_ (SC 1 2 rfl ?_ (SC 2 3 rfl ?_ (SC 3 4 rfl ?_ (SC 4 5 rfl ?_ (SC 5 6 rfl ?_ (SC 6 7 rfl ?_ (SC 7 8 rfl ?_ (SC 8 9 rfl ?_ (SC 9 10 rfl ?_ (SC 10 11 rfl ?_ Steps.nil))))))))));all_goals (intro L s w9 hN hU hi hS K hK;dsimp only at hK⊢;simp only[Act.put,List.setIfInBounds_toArray,List.set_cons_zero,List.set_cons_succ]at hK)
    ·obtain ⟨_,_,_,cs9,b9,_,z9,_⟩:=hS.own_at 0 rfl;obtain rfl:=z9 (hU.out 10 _ rfl rfl);obtain ⟨u1,u2,_,_⟩:=b9.both;go_simp;exact hK.out _ _ (hS.val rfl rfl (Below.refl _ _) rfl)
    ·go_simp;go_at_call 84;refine (ofdig (y:=10) rfl (Nat.le_refl _) _).mono ?_;rintro e9 w10 ⟨⟨A0,c0,rfl,h0⟩,q⟩;exact hK.out _ _ (hS.val rfl rfl q ⟨A0,c0,rfl,h0⟩)
    ·have e0:=hS.fx 0 rfl rfl (hN.out 0 rfl);simp only[e0]at hK⊢;obtain ⟨A1,c1,e1,h1⟩:=hS.val_at 1 rfl (by decide) (hN.out 1 rfl);simp only[e1]at hK⊢;go_simp;go_at_call 83;refine (times10 (hS.mem.r (i:=0) rfl) h1 hx3 (Nat.le_refl _)).mono ?_;rintro e9 w10 ⟨⟨A0,c0,rfl,h0⟩,q⟩;exact hK.out _ _ (hS.val rfl rfl q ⟨A0,c0,rfl,h0⟩)
    ·go_simp;exact hK.out _ _ (hS.val rfl rfl (Below.refl _ _) rfl)
    ·go_simp;exact hK.out _ _ (hS.val rfl rfl (Below.refl _ _) rfl)
    ·have e3:=hS.fx 3 rfl rfl (hN.out 3 rfl);simp only[e3]at hK⊢;have e4:=hS.fx 4 rfl rfl (hN.out 4 rfl);simp only[e4]at hK⊢;go_simp;exact hK.out _ _ (hS.val rfl rfl (Below.refl _ _) rfl)
    ·have e5:=hS.fx 5 rfl rfl (hN.out 5 rfl);simp only[e5]at hK⊢;go_simp;exact hK.out _ _ (hS.val rfl rfl (Below.refl _ _) rfl)
    ·have e6:=hS.fx 6 rfl rfl (hN.out 6 rfl);simp only[e6]at hK⊢;go_simp;exact hK.out _ _ (hS.val rfl rfl (Below.refl _ _) rfl)
    ·have e7:=hS.fx 7 rfl rfl (hN.out 7 rfl);simp only[e7]at hK⊢;go_simp;go_at_call 84;refine (ofdig HZ.out (by omega) _).mono ?_;rintro e9 w10 ⟨⟨A0,c0,rfl,h0⟩,q⟩;exact hK.out _ _ (hS.val rfl rfl q ⟨A0,c0,rfl,h0⟩)
    ·obtain ⟨A2,c2,e2,h2⟩:=hS.val_at 2 rfl (by decide) (hN.out 2 rfl);simp only[e2]at hK⊢;obtain ⟨A8,c8,e8,h8⟩:=hS.val_at 8 rfl (by decide) (hN.out 8 rfl);simp only[e8]at hK⊢;go_simp;go_at_call 82;refine (sumdig h2 h8 (by omega) (by omega)).mono ?_;rintro e9 w10 ⟨⟨A0,c0,rfl,h0⟩,q⟩;exact hK.out _ _ (hS.val rfl rfl q ⟨A0,c0,rfl,h0⟩)
    ·obtain ⟨A9,c9,e9,h9⟩:=hS.val_at 9 rfl (by decide) (hN.out 9 rfl);simp only[e9]at hK⊢;obtain ⟨_,_,_,cs9,b9,n9,z9,_⟩:=hS.own_at 0 rfl;obtain rfl:=z9 hi.out;refine ite_of rfl ?_;refine wp_store_row _ _ _ rfl (w.heap.size) _ rfl rfl _ _ b9 info_rint rfl (by rw[←Array.all_toList];rfl) ?_;simp only[Act.put];exact hK.out undef _ (hS.fillOwn (u:=undef) rfl (k:=0) rfl rfl rfl (setRow_grown _ _ _) (b9.row _) rfl ⟨A9,c9,rfl,h9⟩)
   intro L s w9 hall hS;obtain ⟨_,_,_,ocs,ob,on,_,oz⟩:=hS.own_at 0 rfl;obtain ⟨oA,oc,rfl,oh⟩:=oz (hall 10 (by decide));have M2:Mem w w9 [(w.heap.size,131,#[.bool false,.slice oA (dig (x*10+q)).length oc])] [(oA,oc,dig (x*10+q))]:=((hS.mem.addR oh).addK ob).sub (by simp) (by simp);clear hS hall oh ob M;obtain ⟨f1,f2,_,_⟩:=(M2.k (i:=0) rfl).both;by_cases hbig:3<(dig (x*10+q)).length
   ·have hfin:=HB.out _ (by rw[HX.out,numD_split ds (m+1) 0];exact numD_le _ _) hbig;have HF:=Lib.hid hfin;have d2:decide ((3:Int)<((dig (x*10+q)).length:Int))=true:=decide_eq_true (by omega);clear hfin HX HZ;generalize dig (x*10+q)=D at*;go_wp2;rw[show vR (45::ds)=(0,false) from HF.out];exact bodyPost_ret (v:= .tuple #[.int .i64 0,.bool false]) (by simp[results,Tryz.results60,go_sem]) rfl ⟨rfl,M2.bel⟩
   ·have d2:decide ((3:Int)<((dig (x*10+q)).length:Int))=false:=decide_eq_false (by omega);have hb3:(dig (x*10+q)).length≤3:=by omega
    go_wp2_with fail;go_roundg (S.size-(m+1))
    case measure=>omega
    case rel=>exact ⟨m+1,x*10+q,oA,oc,rfl,by omega,by simp,HX,hb3,M2⟩
  ·have d1:decide ((m:Int)<(S.size:Int))=false:=decide_eq_false (by omega);have hxe:x=numD 0 ds:=by
    have h1:=hx.out;rw[List.take_of_length_le (by have:=HS.out;omega)]at h1;exact h1
   have h3:(dig (numD 0 ds)).length≤3:=by rw[←hxe];exact hx3
   have hv:=HV.out h3;have hsv:sv true (dig (numD 0 ds))= -((numD 0 ds:Nat):Int):=by unfold sv;rw[val_dig];rfl
   have hng:snegR false (dig x)=(sN (-(x:Int)),sD (-(x:Int)),0):=by
    unfold snegR;rw[if_pos (sright_of (right_dig' (by omega)) (by simp))];unfold sv;rw[val_dig];rfl
   rw[hsv,←hxe]at hv;have HN:=Lib.hid hng;have HR:Hid (vR (45::ds)=((ssmallR (sN (-(x:Int))) (sD (-(x:Int)))).1,(ssmallR (sN (-(x:Int))) (sD (-(x:Int)))).2==0)):=hv;clear hv hsv hxe h3 hng;obtain ⟨f1,f2,_,_⟩:=(M.k (i:=0) rfl).both;go_wp2_with fail;refine (rsneg_any _ _ _ _ _ (M.r (i:=0) rfl)).mono ?_;rw[HN.out];generalize sN (-(x:Int))=n1 at*;generalize sD (-(x:Int))=xs1 at*;rintro e w5 ⟨⟨A5,c5,rfl,h5⟩,q⟩;replace M:=(M.below q).addR h5;clear f1 f2;go_wp2_with ((with_reducible refine st_ ?_);refine wp_put2 _ _ (M.k (i:=0) rfl) rfl rfl rfl rfl info_rint rfl rfl ?_;intro w6 b6 g6;replace M:=M.rowAt (i:=0) rfl (Nat.le_refl _) (by simp) rfl b6 g6;obtain ⟨f1,f2,_,_⟩:=(M.k (i:=0) rfl).both);refine (rssmall_any _ _ _ _ _ (M.r (i:=0) rfl)).mono ?_;rintro e w7 ⟨rfl,q⟩;replace M:=M.below q;go_wp2;rw[HR.out];exact bodyPost_ret (v:= .tuple #[.int .i64 (ssmallR n1 xs1).1,.bool ((ssmallR n1 xs1).2==0)]) (by simp[results,Tryz.results60,go_sem]) rfl ⟨rfl,M.bel⟩
end Go.Proofs.YtjlhjabgclflcaaGreatDoor

/-
  Joined texts: Vx, Wc, Vs.
-/
import Derived.Test.YtpfhgkielakmoaaGreatDoorBu
import Derived.Shelf.Strings.BuilderF
import Derived.Test.YtpfhgkielakmoaaGreatDoorPl
import Derived.Test.YtpfhgkielakmoaaGreatDoorVf
set_option maxHeartbeats 8000000
set_option maxRecDepth 100000
set_option linter.unusedSimpArgs false
set_option linter.unusedVariables false
namespace Go.Proofs.YtpfhgkielakmoaaGreatDoor
open Go.RowKit Num Go.Joins
theorem fits_len {s:List UInt8} (h:fitsS s=true):s.length≤8192:=by
 unfold fitsS at h;obtain ⟨_,_,_,_,h1,_⟩:=splitR_ok (eq_of_beq h);exact h1
def okI (x:It):Bool:=(itemS x).2&&fitsS (itemS x).1
theorem okI_len {x:It} (h:okI x=true):(itemS x).1.length≤8192:=by
 unfold okI at h;rw[Bool.and_eq_true]at h;exact fits_len h.2
theorem textS_len:∀{l:List It},(∀x∈l,okI x=true)→(textS l).length≤8193*l.length
 |[],_=>Nat.zero_le _
 |x::l,h=>by
  have h1:=okI_len (h x List.mem_cons_self);have h2:=textS_len fun y hy=>h y (List.mem_cons_of_mem _ hy);have e:textS (x::l)=((itemS x).1++[10])++textS l:=by simp[textS]
  rw[e,List.length_append,List.length_append,List.length_cons (a:=x)];show _+1+_≤_;omega
theorem textS_take {l:List It} {j:Nat} (h:j<l.length):textS (l.take (j+1))=textS (l.take j)++((itemS l[j]).1++[10]):=by
 rw[List.take_succ_eq_append_getElem h,textS_app];simp[textS]
theorem showL_big {l:List It} (h:512<l.length):showL l=([],3):=by unfold showL;rw[if_pos h]
theorem showL_no {l:List It} (h:¬512<l.length) {x:It} (hx:x∈l) (hb:okI x=false):showL l=([],2):=by
 unfold showL;rw[if_neg h,if_neg];intro h1;rw[List.all_eq_true]at h1;have:=h1 x hx;unfold okI at hb;rw[hb]at this;cases this
theorem showL_all {l:List It} (h:¬512<l.length) (ha:∀x∈l,okI x=true):showL l=if fitsS (textS l)=true then (textS l,0) else ([],3):=by
 unfold showL;rw[if_neg h,if_pos]
 ·rfl
 ·rw[List.all_eq_true];exact ha
theorem bu_below {T e:TypeId} {B b:Nat} {bs:List Value} {w w':World} (h:Lib.IsBuilder T e B b bs w) (q:Below w.heap.size w w'):Lib.IsBuilder T e B b bs w':=by
 have key:∀{p:Value},Lib.BuilderAt T e B b p bs w→Lib.BuilderAt T e B b p bs w':=fun {p} h=>by
  have hlt:=h.lt;obtain ⟨hB,v,hb,hown,hne⟩:=h;exact ⟨hB,v,by rw[q.block b hlt];exact hb,World.ownsRow.kept hown (grown_of_below q) (Classical.em _),hne⟩
 exact h.elim (fun x=> .inl (key x)) (fun x=> .inr (key x))
theorem vshow_any {F:Nat→Prop} (A:Option Addr) (c:Nat) (l:List It) (w:World) (hE:Env w) (ha:(layI 47 102).row.P F w (.slice A l.length c) l) (hr:∀x∈l,RngI x) (hnm:∀x∈l,x.name.length≤10000):Calls Tryz.prog 9 #[.slice A l.length c] w fun e w'=>e= .returned (TEV (showL l))∧Below w.heap.size w w':=by
 by_cases hbig:512<l.length
 ·have d0:decide ((512:Int)<(l.length:Int))=true:=decide_eq_true (by omega);have HF:=Lib.hid (showL_big hbig);clear ha hr hnm;go_enter Tryz.func9,Tryz.ntmps9;go_wp2_with fail;refine bodyPost_ret (v:=TEV ([],3)) (by simp[results,Tryz.results9,go_sem,TEV]) rfl ?_;exact ⟨by rw[HF.out],Below.refl _ _⟩
 ·have d0:decide ((512:Int)<(l.length:Int))=false:=decide_eq_false (by omega);have HR:=Lib.hid hr;have HNM:=Lib.hid hnm;clear hr hnm;go_enter Tryz.func9,Tryz.ntmps9;go_wp2_with fail;go_loopg [14] l.length (fun k a wr=>∃(j:Nat),k=l.length-j∧j≤l.length∧a= .int .i64 (j:Nat)∧(∀y∈l.take j,okI y=true)∧Lib.IsBuilder 54 5 w.heap.size w.heap.size (Lib.byteCells (textS (l.take j))) wr∧Below w.heap.size w wr)
  case atStart=>exact ⟨0,rfl,Nat.zero_le _,rfl,(by intro y hy;cases hy),Lib.fresh_isBuilder _ _ w,below_alloc1 w _⟩
  case round=>
   obtain ⟨j,hk,hj,rfl,hall,hB,hbl⟩:=hrel;by_cases hlt:j<l.length
   ·have d1:decide ((j:Int)<(l.length:Int))=true:=decide_eq_true (by omega);obtain ⟨b,o,hA,hb1,hc⟩:=row_it (Dt.below _ ha hbl (Nat.le_refl _)) (lt_ne hlt);obtain ⟨f0,f1,f2,f4,f5,f7,⟨A3,n3,f3,hxd⟩,A6,n6,f6,hxv⟩:=hc j hlt;subst hA;clear hc ha;have HA:=Lib.hid hall;have HS:=Lib.hid (textS_take hlt);have HM:=Lib.hid (List.getElem_mem hlt);have HT:=Lib.hid (List.take_succ_eq_append_getElem hlt);have hlen:=textS_len hall;have hlen2:(l.take j).length≤512:=by rw[List.length_take];omega
    clear hall;have hrx:=HR.out l[j] HM.out;have hnx:=HNM.out l[j] HM.out;have HNO:=Lib.hid (fun (h:okI l[j]=false)=>showL_no hbig HM.out h);have HOK:=Lib.hid (fun (h:okI l[j]=true)=>okI_len h);have HI:=Lib.hid (fun (w':World) (hE':Env w') (q:Below wr.heap.size wr w')=>vitem_any l[j] n3 A3 n6 A6 w' hE' hnx hrx (Dt.below _ hxd q (Nat.le_refl _)) (Dt.below _ hxv q (Nat.le_refl _)));clear hxd hxv hrx hnx;have HN1:=Lib.hid (@showI_no l[j]);have HN2:=Lib.hid (@showI_yes l[j]);have hoke:okI l[j]=((itemS l[j]).2&&fitsS (itemS l[j]).1):=rfl;rw[←hoke]at HN1 HN2;clear hoke;unfold itA at HI;generalize l[j]=x at*;obtain ⟨xk,xn,xb,xd,xz,xo,xv,xa⟩:=x;dsimp only at f0 f1 f2 f3 f4 f5 f6 f7 HI;have q2:=below_alloc1 wr (.cells #[.int .i64 xk,.string ⟨xn.toArray⟩,.bool xb,.slice A3 xd.length n3,.int .i64 xz,.bool xo,.slice A6 xv.length n6,.int .i64 xa] 47);have hbl2:=below_trans hbl q2;have hB2:=bu_below hB q2;go_wp2_with fail;refine (HI.out _ (hE.below hbl2) q2).mono ?_;rintro e w3 ⟨rfl,q3⟩;have hB3:=bu_below hB2 q3;have hbl3:=below_trans hbl2 q3;clear f0 f1 f2 f3 f4 f5 f6 f7 HI q2 q3 hB hB2 hbl hbl2;cases hok:okI ⟨xk,xn,xb,xd,xz,xo,xv,xa⟩ with
    |false=>
     have hq:=HN1.out hok;have hz:=HNO.out hok;rw[hq];have HZ:=Lib.hid hz;clear hz hq;dsimp only[TEV];go_wp2_with fail;refine bodyPost_ret (v:=TEV ([],2)) (by simp[results,Tryz.results9,go_sem,TEV]) rfl ?_;exact ⟨by rw[HZ.out],hbl3⟩
    |true=>
     have hq:=HN2.out hok;have ho:=HOK.out hok;rw[hq];clear hq;have HA2:Hid (∀y∈l.take (j+1),okI y=true):=by
      show _;rw[HT.out];intro y hy;rcases List.mem_append.1 hy with hy|hy
      ·exact HA.out y hy
      ·rw[List.mem_singleton.1 hy];exact hok
     have HS2:=HS.out;generalize (itemS ⟨xk,xn,xb,xd,xz,xo,xv,xa⟩).1=t at*;have HS3:=Lib.hid HS2;clear HS2 HS hok;dsimp only[TEV];have hsz:(⟨t.toArray⟩:ByteArray).size≤8192:=ho;have hsc:Hid (Lib.strCells ⟨t.toArray⟩=Lib.byteCells t):=Lib.strCells_toArray t;generalize (⟨t.toArray⟩:ByteArray)=S at*;go_wp2_with fail;refine (wstr_any w.heap.size w.heap.size _ S w3 hB3 (by rw[Lib.byteCells_length];omega) hbl3.size).mono ?_;rintro e w4 ⟨rfl,hB4,q4⟩;have hbl4:=hbl3.trans q4;go_wp2_with fail;refine (wbyte_any w.heap.size w.heap.size _ 10 w4 (Or.inr hB4) (by rw[List.length_append,Lib.byteCells_length,Lib.strCells_length];omega) hbl4.size).mono ?_;rintro e w5 ⟨rfl,hB5,q5⟩;have hbl5:=hbl4.trans q5;go_wp2_with fail;go_roundg (l.length-(j+1))
     case measure=>omega
     case rel=>
      refine ⟨j+1,rfl,by omega,by simp,HA2.out,Or.inr ?_,hbl5⟩;rw[hsc.out]at hB5;rw[HS3.out,Lib.byteCells_append,Lib.byteCells_append,←List.append_assoc];exact hB5
   ·have d1:decide ((j:Int)<(l.length:Int))=false:=decide_eq_false (by omega);have e1:l.take j=l:=List.take_of_length_le (by omega);rw[e1]at hall hB;clear e1;have HF:=Lib.hid (showL_all hbig hall);clear hall;have hf:fitsS (⟨(textS l).toArray⟩:ByteArray).data.toList=fitsS (textS l):=rfl;have HFT:=Lib.hid (vfits_any ⟨(textS l).toArray⟩);rw[hf]at HFT;clear hf ha;generalize textS l=u at*;go_wp2_with fail;refine (Any.Builder_String_any_f Tryz.lays169 Tryz.Builder_Extra_169 w.heap.size w.heap.size u wr (Lib.IsBuilderF.of hB) hbl.size).mono ?_;rintro e w3 ⟨rfl,hB3,q3⟩;have hbl3:=hbl.trans q3;go_wp2_with fail;refine (HFT.out _ (hE.below hbl3)).mono ?_;rintro e w4 ⟨rfl,q4⟩;have hbl4:=below_trans hbl3 q4;have hB4:Lib.IsBuilderF 54 5 w.heap.size w.heap.size (Lib.byteCells u) w4:=by
     have key:∀{p:Value},Lib.BuilderAtF 54 5 w.heap.size w.heap.size p (Lib.byteCells u) w3→Lib.BuilderAtF 54 5 w.heap.size w.heap.size p (Lib.byteCells u) w4:=fun {p} h=>by
      obtain ⟨hB,v,hb,hown,hne⟩:=h;have hlt:w.heap.size<w3.heap.size:=(Array.getElem?_eq_some_iff.1 hb).1;exact ⟨hB,v,by rw[q4.block _ hlt];exact hb,World.ownsRowF.kept hown (grown_of_below q4) (Classical.em _),hne⟩
     exact hB3.elim (fun x=> .inl (key x)) (fun x=> .inr (key x))
    cases hfb:fitsS u with
    |false=>
     rw[hfb]at HF;go_wp2_with fail;refine bodyPost_ret (v:=TEV ([],3)) (by simp[results,Tryz.results9,go_sem,TEV]) rfl ?_;exact ⟨by rw[HF.out];rfl,hbl4⟩
    |true=>
     rw[hfb]at HF;go_wp2_with fail;refine (Any.Builder_String_any_f Tryz.lays169 Tryz.Builder_Extra_169 w.heap.size w.heap.size u w4 hB4 hbl4.size).mono ?_;rintro e w5 ⟨rfl,hB5,q5⟩;go_wp2_with fail;refine bodyPost_ret (v:=TEV (u,0)) (by simp[results,Tryz.results9,go_sem,TEV]) rfl ?_;exact ⟨by rw[HF.out];rfl,hbl4.trans q5⟩
end Go.Proofs.YtpfhgkielakmoaaGreatDoor
set_option maxHeartbeats 4000000
set_option maxRecDepth 100000
set_option linter.unusedSimpArgs false
set_option linter.unusedVariables false
namespace Go.Proofs.YtpfhgkielakmoaaGreatDoor
open Go.RowKit Num Go.Joins
def aTxt:List UInt8:=[118,97,114,32,49,46,46,51,58,32,120,32,58,58,32,111,117,116,112,117,116,95,118,97,114,59]
def iA:It:=⟨2,[120],false,[(1,3)],0,true,[],0⟩
def iB:It:=⟨6,[118,97,114],false,[],0,false,[],1⟩
def iC:It:=⟨6,[],false,[],0,false,[],0⟩
theorem showI_A:showI iA=(aTxt,0):=by kernel_rfl
theorem showI_B:showI iB=([],2):=by kernel_rfl
theorem right_C:((itemS iC).2&&fitsS (itemS iC).1)=true:=by kernel_rfl
theorem rng_A:RngI iA:=⟨⟨by decide,by decide⟩,fun r hr=>by rw[List.mem_singleton.1 hr];exact ⟨⟨by decide,by decide⟩,⟨by decide,by decide⟩⟩,fun y hy=>absurd hy List.not_mem_nil⟩
theorem rng_B:RngI iB:=⟨⟨by decide,by decide⟩,fun r hr=>absurd hr List.not_mem_nil,fun y hy=>absurd hy List.not_mem_nil⟩
theorem rng_C:RngI iC:=⟨⟨by decide,by decide⟩,fun r hr=>absurd hr List.not_mem_nil,fun y hy=>absurd hy List.not_mem_nil⟩
theorem alive7_any (w:World) (hE:Env w):Calls Tryz.prog 7 #[] w fun e w'=>e= .returned (.bool true)∧Below w.heap.size w w':=by
 have q0:=below_alloc1 w (.cells #[.int .i64 1,.int .i64 3] 44);have hrow:layR.row.P (fun _=>True) (w.alloc (.cells #[.int .i64 1,.int .i64 3] 44)) (.slice (some ⟨w.heap.size,0,none⟩) 1 1) [(1,3)]:=by
  have kb:Blk (w.alloc (.cells #[.int .i64 1,.int .i64 3] 44)) w.heap.size 44 #[.int .i64 1,.int .i64 3]:=Blk.new ..;obtain ⟨u1,u2,_,_⟩:=kb.both;refine ⟨_,_,rfl,Nat.le_refl _,by decide,fun _=>⟨w.heap.size,0,rfl,trivial,kb.lt,fun j hj k hk=> ?_⟩⟩;have hj0:j=0:=by
   have:j<1:=hj;omega
  subst hj0;have hk2:k<2:=hk;match k,hk2 with
  |0,_=>exact ⟨_,u1,rfl⟩
  |1,_=>exact ⟨_,u2,rfl⟩
 have hnil:∀(w':World),(layE 102).row.P (fun _=>True) w' (.slice none 0 0) []:=fun w'=>Lay.row_nil (Nat.zero_le _);have hnil2:∀(w':World),layR.row.P (fun _=>True) w' (.slice none 0 0) []:=fun w'=>Lay.row_nil (Nat.zero_le _);have HA:=Lib.hid (vitem_any iA 1 (some ⟨w.heap.size,0,none⟩) 0 none _ (hE.below q0) (by decide) rng_A hrow (hnil _));have HB:=Lib.hid (fun (w':World) (hE':Env w')=>vitem_any iB 0 none 0 none w' hE' (by decide) rng_B (hnil2 _) (hnil _));have HC:=Lib.hid (fun (w':World) (hE':Env w')=>vright_any iC 0 none 0 none w' hE' (by decide) rng_C (hnil2 _) (hnil _));rw[showI_A]at HA;rw[showI_B]at HB;rw[right_C]at HC;clear hrow hnil hnil2;go_enter Tryz.func7,Tryz.ntmps7;go_wp2_with fail;refine (HA.out).mono ?_;rintro e w1 ⟨rfl,q1⟩;have q2:=below_trans q0 q1;dsimp only[TEV,aTxt];go_wp2_with fail;refine (HB.out _ (hE.below q2)).mono ?_;rintro e w3 ⟨rfl,q3⟩;have q4:=below_trans q2 q3;dsimp only[TEV];go_wp2_with fail;refine (HC.out _ (hE.below q4)).mono ?_;rintro e w5 ⟨rfl,q5⟩;go_wp2_with fail;go_ret;exact ⟨rfl,below_trans q4 q5⟩
end Go.Proofs.YtpfhgkielakmoaaGreatDoor
set_option linter.unusedSimpArgs false
set_option linter.unusedVariables false
namespace Go.Proofs.YtpfhgkielakmoaaGreatDoor
theorem dec_len:∀(k u:Nat),u<10^(k+1)→(Lib.decDigits u).length≤k+1
 |0,u,h=>by
  rw[Lib.decDigits,dif_pos (by omega)];exact Nat.le_refl _
 |k+1,u,h=>by
  by_cases h1:u<10
  ·rw[Lib.decDigits,dif_pos h1];show 1≤_;omega
  ·rw[Lib.decDigits,dif_neg h1,List.length_append];have h2:u/10<10^(k+1):=by
    rw[Nat.pow_succ]at h;omega
   have:=dec_len k (u/10) h2;show _+1≤_;omega
theorem uint_lt (M:Nat):∀(l:List UInt8) (acc u:Nat),Lib.parseUintM M acc l= .ok u→u<(acc+1)*10^l.length
 |[],acc,u,h=>by
  unfold Lib.parseUintM at h;injection h with h;subst h;rw[List.length_nil,Nat.pow_zero];omega
 |c::r,acc,u,h=>by
  unfold Lib.parseUintM at h;split at h
  ·split at h
   ·cases h
   ·split at h
    ·cases h
    ·have h1:=uint_lt M r _ u h;rw[List.length_cons,Nat.pow_succ,Nat.mul_comm (10^r.length) 10,←Nat.mul_assoc];refine Nat.lt_of_lt_of_le h1 (Nat.mul_le_mul_right _ ?_);omega
  ·cases h
theorem alone_num {t:List UInt8} {v:Int} (h:Alone (2,t,v)):I64 v∧(Lib.itoa v).length≤t.length:=by
 obtain ⟨h1,_,h3⟩:=h;dsimp only at h1 h3;unfold valL at h3;rw[if_pos rfl]at h3;cases t with
 |nil=>cases h3
 |cons c r=>
  have hc:c.toNat≠43:=by
   intro hc;have hc1:c=43:=by
    apply UInt8.toNat_inj.1;exact hc
   subst hc1;unfold wordL at h1;dsimp only at h1;rw[if_neg (by decide),if_neg (by decide),if_neg (by rintro ⟨h,_⟩;exact absurd h (by decide)),if_neg (by rintro (⟨h,_⟩|⟨h,_⟩)<;>exact absurd h (by decide)),if_neg (by decide)]at h1;injection h1 with h1 _;exact absurd h1 (by decide)
  unfold Lib.parseIntB at h3;dsimp only at h3;by_cases hn:c.toNat=45
  ·rw[if_pos (Or.inr hn)]at h3;unfold Lib.parseUintB at h3;by_cases hr:r=[]
   ·rw[if_pos hr]at h3;cases h3
   ·rw[if_neg hr]at h3;rcases hu:Lib.parseUintM (2^64-1) 0 r with u|_|_
    ·rw[hu]at h3;dsimp only at h3;rw[if_neg (by rintro ⟨h,_⟩;exact h hn)]at h3;by_cases hb:c.toNat=45∧2^(64-1)<u
     ·rw[if_pos hb]at h3;cases h3
     ·rw[if_neg hb,if_pos hn]at h3;injection h3 with h3;subst h3;have hu2:¬9223372036854775808<u:=fun h=>hb ⟨hn,h⟩;have hlt:=uint_lt _ _ _ _ hu;obtain ⟨d,q,rfl⟩:∃d q,r=d::q:=by
       cases r with
       |nil=>exact absurd rfl hr
       |cons d q=>exact ⟨d,q,rfl⟩
      rw[List.length_cons,Nat.zero_add,Nat.one_mul]at hlt;have hd:=dec_len q.length u hlt;refine ⟨⟨by omega,by omega⟩,?_⟩;unfold Lib.itoa;by_cases h0: -(u:Int)<0
      ·rw[if_pos h0,List.length_cons,List.length_cons,List.length_cons];rw[show (-(u:Int)).natAbs=u by omega];omega
      ·rw[if_neg h0,List.length_cons,List.length_cons];rw[show (-(u:Int)).toNat=0 by omega];rw[Lib.decDigits,dif_pos (by omega)];show 1≤_;omega
    ·rw[hu]at h3;cases h3
    ·rw[hu]at h3;cases h3
  ·rw[if_neg (by rintro (h|h);exact hc h;exact hn h)]at h3;unfold Lib.parseUintB at h3;rw[if_neg (by simp)]at h3;rcases hu:Lib.parseUintM (2^64-1) 0 (c::r) with u|_|_
   ·rw[hu]at h3;dsimp only at h3;by_cases hb:¬c.toNat=45∧2^(64-1)≤u
    ·rw[if_pos hb]at h3;cases h3
    ·rw[if_neg hb,if_neg (by rintro ⟨h,_⟩;exact hn h),if_neg hn]at h3;injection h3 with h3;subst h3;have hu2:¬9223372036854775808≤u:=fun h=>hb ⟨hn,h⟩;have hlt:=uint_lt _ _ _ _ hu;rw[List.length_cons,Nat.zero_add,Nat.one_mul]at hlt;have hd:=dec_len r.length u hlt;refine ⟨⟨by omega,by omega⟩,?_⟩;unfold Lib.itoa;rw[if_neg (by omega),List.length_cons];rw[show ((u:Int)).toNat=u by omega];exact hd
   ·rw[hu]at h3;cases h3
   ·rw[hu]at h3;cases h3
def AT (l:List Tok):Prop:=∀t∈l,Alone (stripT t)∧(t.k=1→t.t.length≤8000)
theorem AT.tail {t:Tok} {l:List Tok} (h:AT (t::l)):AT l:=fun u hu=>h u (List.mem_cons_of_mem _ hu)
def Sw {α:Type} (f:Pm α) (p:α→Nat→Prop):Prop:=∀l x r,AT l→f l= .ok x r→AT r∧∃n,wt l=n+wt r∧p x n
theorem Sw.mono {α:Type} {f:Pm α} {p q:α→Nat→Prop} (h:Sw f p) (hp:∀x n,p x n→q x n):Sw f q:=fun l x r ha e=>by
 obtain ⟨h1,n,h2,h3⟩:=h l x r ha e;exact ⟨h1,n,h2,hp x n h3⟩
theorem sw_ret {α:Type} {p:α→Nat→Prop} {x:α} (h:p x 0):Sw (pret x) p:=fun l y r ha e=>by
 unfold pret at e;injection e with e1 e2;subst e1 e2;exact ⟨ha,0,by omega,h⟩
theorem sw_wrong {α:Type} {p:α→Nat→Prop}:Sw (wrongP:Pm α) p:=fun l x r _ e=>by cases e
theorem sw_bind {α β:Type} {f:Pm α} {g:α→Pm β} {p:α→Nat→Prop} {q:β→Nat→Prop} (hf:Sw f p) (hg:∀x a,p x a→Sw (g x) (fun y n=>q y (a+n))):Sw (pbind f g) q:=fun l y r ha e=>by
 obtain ⟨x,s,h1,h2⟩:=bind_ok e;obtain ⟨a1,n,a2,a3⟩:=hf l x s ha h1;obtain ⟨b1,m,b2,b3⟩:=hg x n a3 s y r a1 h2;exact ⟨b1,n+m,by omega,b3⟩
theorem sw_if {α:Type} {b:Prop} [Decidable b] {f g:Pm α} {p:α→Nat→Prop} (hf:b→Sw f p) (hg:¬b→Sw g p):Sw (if b then f else g) p:=by
 by_cases h:b
 ·rw[if_pos h];exact hf h
 ·rw[if_neg h];exact hg h
theorem sw_may (s:List UInt8):Sw (mayP s) (fun b n=>(b=true∧n=s.length)∨(b=false∧n=0)):=fun l b r ha e=>by
 unfold mayP at e;split at e
 ·rename_i h;injection e with e1 e2;subst e1 e2;cases l with
  |nil=>exact Bool.noConfusion h
  |cons t l=>
   have ht:t.t=s:=eq_of_beq h;exact ⟨ha.tail,t.t.length,wt_cons t l,Or.inl ⟨rfl,by rw[ht]⟩⟩
 ·injection e with e1 e2;subst e1 e2;exact ⟨ha,0,by omega,Or.inr ⟨rfl,rfl⟩⟩
theorem sw_take (s:List UInt8):Sw (takeP s) (fun _ n=>n=s.length):=fun l b r ha e=>by
 unfold takeP at e;split at e
 ·rename_i h;injection e with e1 e2;subst e2;cases l with
  |nil=>exact Bool.noConfusion h
  |cons t l=>
   have ht:t.t=s:=eq_of_beq h;exact ⟨ha.tail,t.t.length,wt_cons t l,by rw[ht]⟩
 ·cases e
theorem sw_takes:∀(ss:List (List UInt8)),Sw (takesP ss) (fun _ n=>n=(ss.map List.length).sum)
 |[]=>sw_ret rfl
 |s::r=>sw_bind (sw_take s) fun _ a ha=>(sw_takes r).mono fun _ n hn=>by
  rw[List.map_cons,List.sum_cons,ha,hn]
theorem kind_one {l:List Tok} (h:kindP l=1):∃t r,l=t::r∧t.k=1∧wordP t.t=false:=by
 cases l with
 |nil=>cases h
 |cons t r=>
  unfold kindP at h;dsimp only at h;split at h
  ·cases h
  ·rename_i hw;refine ⟨t,r,rfl,h,?_⟩;cases hq:wordP t.t with
   |false=>rfl
   |true=>exact absurd ⟨h,hq⟩ hw
theorem kind_two {l:List Tok} (h:kindP l=2):∃t r,l=t::r∧t.k=2:=by
 cases l with
 |nil=>cases h
 |cons t r=>
  unfold kindP at h;dsimp only at h;split at h
  ·cases h
  ·exact ⟨t,r,rfl,h⟩
theorem at_name {t:Tok} {r:List Tok} (ha:AT (t::r)) (hk:t.k=1) (hw:wordP t.t=false):nameB t.t=true:=by
 obtain ⟨h1,h2⟩:=ha t List.mem_cons_self;have h3:=h2 hk;obtain ⟨k,s,v,p⟩:=t;have hk':k=1:=hk;subst hk';have hv:v=0:=alone_val (k:=1) h1 (by decide);subst hv;refine nameB_iff.2 ⟨⟨h1,hw⟩,?_⟩;have h4:s.length≤8000:=h3;show s.length≤8176;omega
theorem at_num {t:Tok} {r:List Tok} (ha:AT (t::r)) (hk:t.k=2):I64 t.v∧(Lib.itoa t.v).length≤t.t.length:=by
 have h1:=(ha t List.mem_cons_self).1;obtain ⟨k,s,v,p⟩:=t;have hk':k=2:=hk;subst hk';exact alone_num h1
theorem sw_name:Sw nameP (fun s n=>nameB s=true∧s.length=n):=fun l x r ha e=>by
 unfold nameP at e;split at e
 ·rename_i h;injection e with e1 e2;subst e1 e2;obtain ⟨t,r,rfl,hk,hw⟩:=kind_one h;exact ⟨ha.tail,t.t.length,wt_cons t r,at_name ha hk hw,rfl⟩
 ·cases e
theorem sw_number:Sw numberP (fun v n=>I64 v∧(Lib.itoa v).length≤n):=fun l x r ha e=>by
 unfold numberP at e;split at e
 ·rename_i h;injection e with e1 e2;subst e1 e2;obtain ⟨t,r,rfl,hk⟩:=kind_two h;exact ⟨ha.tail,t.t.length,wt_cons t r,at_num ha hk⟩
 ·cases e
theorem sw_exact (v:Int):Sw (exactP v) (fun _ n=>(Lib.itoa v).length≤n):=fun l x r ha e=>by
 unfold exactP at e;split at e
 ·rename_i h;injection e with e1 e2;subst e2;obtain ⟨t,r,rfl,hk⟩:=kind_two h.1;have hv:t.v=v:=h.2;refine ⟨ha.tail,t.t.length,wt_cons t r,?_⟩;rw[←hv];exact (at_num ha hk).2
 ·cases e
theorem is_of {s:List UInt8} {l:List Tok} (h:isP s l=true):∃t r,l=t::r∧t.t=s:=by
 cases l with
 |nil=>exact Bool.noConfusion h
 |cons t r=>exact ⟨t,r,rfl,eq_of_beq h⟩
def PlainP (x:Ex):Prop:=x.l=[]∧I64 x.n∧x.k≠4∧(plainS x).2=true
theorem i64_0:I64 0:=⟨by decide,by decide⟩
theorem i64_1:I64 1:=⟨by decide,by decide⟩
theorem sw_plain:Sw plainP (fun x n=>PlainP x∧(plainS x).1.length≤n):=fun l x r ha e=>by
 unfold plainP at e;split at e
 ·rename_i h;injection e with e1 e2;subst e1 e2;obtain ⟨t,r,rfl,hk⟩:=kind_two h;obtain ⟨h1,h2⟩:=at_num ha hk;exact ⟨ha.tail,t.t.length,wt_cons t r,⟨rfl,h1,(show (1:Int)≠4 by decide),rfl⟩,h2⟩
 ·split at e
  ·rename_i h;injection e with e1 e2;subst e1 e2;obtain ⟨t,r,rfl,hk,hw⟩:=kind_one h;have hn:=at_name ha hk hw;have hp:plainS ⟨3,0,t.t,[]⟩=(t.t,true):=by
    show plain0S ⟨3,0,t.t,0⟩=_;unfold plain0S;simp[hn]
   refine ⟨ha.tail,t.t.length,wt_cons t r,⟨rfl,i64_0,(show (3:Int)≠4 by decide),?_⟩,?_⟩
   ·show (plainS ⟨3,0,t.t,[]⟩).2=true;rw[hp]
   ·show (plainS ⟨3,0,t.t,[]⟩).1.length≤_;rw[hp];exact Nat.le_refl _
  ·split at e
   ·rename_i h;injection e with e1 e2;subst e1 e2;obtain ⟨t,r,rfl,ht⟩:=is_of h;refine ⟨ha.tail,t.t.length,wt_cons t r,⟨rfl,i64_1,(show (2:Int)≠4 by decide),rfl⟩,?_⟩;rw[ht];exact Nat.le_refl 4
   ·split at e
    ·rename_i h;injection e with e1 e2;subst e1 e2;obtain ⟨t,r,rfl,ht⟩:=is_of h;refine ⟨ha.tail,t.t.length,wt_cons t r,⟨rfl,i64_0,(show (2:Int)≠4 by decide),rfl⟩,?_⟩;rw[ht];exact Nat.le_refl 5
    ·cases e
def J (S:Ex→TX) (xs:List Ex):Nat:=(xs.map fun x=>(S x).1.length+2).sum
theorem J_snoc (S:Ex→TX) (xs:List Ex) (x:Ex):J S (xs++[x])=J S xs+((S x).1.length+2):=by
 unfold J;rw[List.map_append,List.sum_append];rfl
theorem join_sum:∀(ts:List (List UInt8)),ts≠[]→(Lib.join ts [44,32]).length+2=(ts.map fun t=>t.length+2).sum
 |[],h=>absurd rfl h
 |[a],_=>by simp[Lib.join,List.intercalate]
 |a::b::r,_=>by
  have:=join_sum (b::r) (by simp);rw[join_two,List.length_append,List.length_append,List.map_cons,List.sum_cons];have h2:([44,32]:List UInt8).length=2:=rfl;omega
theorem joinS_good {S:Ex→TX} {xs:List Ex} (hl:xs.length≤64) (h:∀x∈xs,(S x).2=true):joinS (xs.map S)=(Lib.join (xs.map fun y=>(S y).1) [44,32],true):=by
 unfold joinS;rw[if_neg (by rw[List.length_map];omega),if_pos,List.map_map]
 ·rfl
 ·rw[List.all_eq_true];intro p hp;obtain ⟨x,hx,rfl⟩:=List.mem_map.1 hp;exact h x hx
theorem joinS_J {S:Ex→TX} {xs:List Ex} (hl:xs.length≤64) (h:∀x∈xs,(S x).2=true) {n:Nat} (hJ:J S xs≤2*n) (hn:1≤n):(joinS (xs.map S)).2=true∧(joinS (xs.map S)).1.length+2≤2*n:=by
 rw[joinS_good hl h];refine ⟨rfl,?_⟩;dsimp only;cases xs with
 |nil=>
  show 0+2≤_;omega
 |cons x r=>
  rw[join_sum _ (by simp),List.map_map];exact hJ
theorem sw_exprsGo {en:List UInt8} (he:en.length=1) {one:Pm Ex} {S:Ex→TX} {q:Ex→Prop} (h1:Sw one (fun x n=>(q x∧(S x).2=true)∧(S x).1.length≤2*n)):∀(k:Nat) (acc:List Ex),acc.length+k≤64→(∀x∈acc,q x∧(S x).2=true)→Sw (exprsGo en one k acc) (fun xs n=>(xs.length≤64∧∀x∈xs,q x∧(S x).2=true)∧J S xs≤J S acc+2*n∧1≤n)
 |0,acc,_,_=>fun l x r _ e=>by cases e
 |k+1,acc,hk,hq=>by
  refine sw_bind h1 fun x a ⟨hx,hl⟩=>sw_bind (sw_may en) fun b c hc=> ?_;have h2:∀y∈acc++[x],q y∧(S y).2=true:=fun y hy=>by
   rcases List.mem_append.1 hy with hy|hy
   ·exact hq y hy
   ·rw[List.mem_singleton.1 hy];exact hx
  have h3:(acc++[x]).length+k≤64:=by rw[List.length_append,List.length_singleton];omega
  refine sw_if (fun hb=> ?_) (fun hb=> ?_)
  ·have hc1:c=1:=by
    rcases hc with hc|hc
    ·rw[hc.2,he]
    ·rw[hc.1]at hb;exact Bool.noConfusion hb
   exact sw_ret ⟨⟨by omega,h2⟩,by rw[J_snoc];omega,by omega⟩
  ·refine sw_bind (sw_take [44]) fun _ d hd=>(sw_exprsGo he h1 k _ h3 h2).mono fun xs n hn=>⟨hn.1,?_,by omega⟩;have hd1:d=1:=hd;have:=hn.2.1;rw[J_snoc]at this;omega
theorem sw_exprs {en:List UInt8} (he:en.length=1) {one:Pm Ex} {S:Ex→TX} {q:Ex→Prop} (h1:Sw one (fun x n=>(q x∧(S x).2=true)∧(S x).1.length≤2*n)):Sw (exprsP en one) (fun xs n=>(xs.length≤64∧∀x∈xs,q x∧(S x).2=true)∧(joinS (xs.map S)).2=true∧(joinS (xs.map S)).1.length+2≤2*n):=by
 have hgo:Sw (exprsP en one) (fun xs n=>(xs.length≤64∧∀x∈xs,q x∧(S x).2=true)∧J S xs≤2*n∧1≤n):=by
  refine sw_bind (sw_may en) fun b c hc=>sw_if (fun hb=> ?_) (fun hb=> ?_)
  ·have hc1:c=1:=by
    rcases hc with hc|hc
    ·rw[hc.2,he]
    ·rw[hc.1]at hb;exact Bool.noConfusion hb
   exact sw_ret ⟨⟨Nat.zero_le _,fun _ h=>absurd h List.not_mem_nil⟩,Nat.zero_le _,by omega⟩
  ·refine (sw_exprsGo he h1 64 [] (Nat.le_refl _) fun _ h=>absurd h List.not_mem_nil).mono fun xs n hn=>⟨hn.1,?_,by omega⟩;have:=hn.2.1;have h0:J S []=0:=rfl;omega
 exact hgo.mono fun xs n hn=>⟨hn.1,joinS_J hn.1.1 (fun x hx=>(hn.1.2 x hx).2) hn.2.1 hn.2.2⟩
theorem sw_plain2:Sw plainP (fun x n=>((x.l=[]∧I64 x.n)∧(plainS x).2=true)∧(plainS x).1.length≤2*n):=sw_plain.mono fun x n h=>⟨⟨⟨h.1.1,h.1.2.1⟩,h.1.2.2.2⟩,by have:=h.2;omega⟩
theorem rngE_plain {x:Ex} (h1:x.l=[]) (h2:I64 x.n):RngE x:=⟨h2,fun y hy=>by rw[h1]at hy;exact absurd hy List.not_mem_nil⟩
theorem sw_expr:Sw exprP (fun x n=>(RngE x∧(exprS x).2=true)∧(exprS x).1.length≤2*n):=by
 refine sw_bind (sw_may [91]) fun b c hc=>sw_if (fun hb=> ?_) (fun hb=> ?_)
 ·refine sw_bind (sw_exprs (S:=plainS) rfl sw_plain2) fun xs n hn=> ?_;have he:exprS ⟨4,0,[],xs.map Ex.low⟩=(91::((joinS (xs.map plainS)).1++[93]),(joinS (xs.map plainS)).2&&true):=by
   have hm:(xs.map Ex.low).map plain0S=xs.map plainS:=by rw[List.map_map];rfl
   unfold exprS;rw[if_neg (fun h=>h rfl)];dsimp only;rw[hm];rfl
  refine sw_ret ⟨⟨⟨i64_0,fun y hy=> ?_⟩,?_⟩,?_⟩
  ·obtain ⟨x,hx,rfl⟩:=List.mem_map.1 hy;exact (hn.1.2 x hx).1.2
  ·rw[he,hn.2.1];rfl
  ·rw[he,List.length_cons,List.length_append];show _+1+1≤_;have:=hn.2.2;omega
 ·refine sw_plain.mono fun x n hx=> ?_;have he:exprS x=plainS x:=if_pos hx.1.2.2.1;rw[he];exact ⟨⟨rngE_plain hx.1.1 hx.1.2.1,hx.1.2.2.2⟩,by have:=hx.2;omega⟩
end Go.Proofs.YtpfhgkielakmoaaGreatDoor

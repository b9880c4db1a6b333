/-
  Joined texts: Wb, Vk, Vl.
-/
import Derived.Test.YtpfhgkielakmoaaGreatDoorWa
import Derived.Test.YtpfhgkielakmoaaGreatDoorVj
set_option maxHeartbeats 8000000
set_option maxRecDepth 100000
set_option linter.unusedSimpArgs false
set_option linter.unusedVariables false
namespace Go.Proofs.YtpfhgkielakmoaaGreatDoor
open Go.RowKit Num
def FewE (y:Ex):Prop:=y.s.length≤100∧y.l.length≤100∧∀z∈y.l,z.s.length≤100
def FewP (x:It):Prop:=x.name.length≤100∧x.vals.length≤100∧x.dom.length≤300∧∀y∈x.vals,FewE y
theorem few_any {F : Nat → Prop} (x : It) (A3 : Option Addr) (n3 : Nat) (A6 : Option Addr) (n6 : Nat) (w : World) (ha : (layE 50).row.P F w (.slice A6 x.vals.length n6) x.vals) :
    Calls Tryz.prog 8 #[.agg #[.int .i64 x.k, .string ⟨x.name.toArray⟩, .bool x.bool, .slice A3 x.dom.length n3, .int .i64 x.size, .bool x.out, .slice A6 x.vals.length n6, .int .i64 x.ask]] w fun e w' =>
      (∃ r, e = .returned (.bool r) ∧ (r = true → FewP x)) ∧ Below w.heap.size w w' := by
  obtain ⟨xk, xn, xb, xd, xz, xo, xv, xa⟩ := x
  dsimp only at *
  have q0 := below_alloc1 w (.cells #[.int .i64 xk, .string ⟨xn.toArray⟩, .bool xb, .slice A3 xd.length n3, .int .i64 xz, .bool xo, .slice A6 xv.length n6, .int .i64 xa] 28)
  have hno : ∀ (P : Prop), (∃ r, Ending.returned (Value.bool false) = Ending.returned (.bool r) ∧ (r = true → P)) := fun P => ⟨false, rfl, fun h => Bool.noConfusion h⟩
  by_cases h1 : 100 < xn.length
  · have d1 : decide ((100 : Int) < (xn.length : Int)) = true := decide_eq_true (by omega)
    go_enter Tryz.func8, Tryz.ntmps8
    go_wp2_with fail
    refine bodyPost_ret (v := .bool false) (by simp [results, Tryz.results8, go_sem]) rfl ?_
    exact ⟨hno _, q0⟩
  have d1 : decide ((100 : Int) < (xn.length : Int)) = false := decide_eq_false (by omega)
  by_cases h2 : 100 < xv.length
  · have d2 : decide ((100 : Int) < (xv.length : Int)) = true := decide_eq_true (by omega)
    go_enter Tryz.func8, Tryz.ntmps8
    go_wp2_with fail
    refine bodyPost_ret (v := .bool false) (by simp [results, Tryz.results8, go_sem]) rfl ?_
    exact ⟨hno _, q0⟩
  have d2 : decide ((100 : Int) < (xv.length : Int)) = false := decide_eq_false (by omega)
  by_cases h3 : 300 < xd.length
  · have d3 : decide ((300 : Int) < (xd.length : Int)) = true := decide_eq_true (by omega)
    go_enter Tryz.func8, Tryz.ntmps8
    go_wp2_with fail
    refine bodyPost_ret (v := .bool false) (by simp [results, Tryz.results8, go_sem]) rfl ?_
    exact ⟨hno _, q0⟩
  have d3 : decide ((300 : Int) < (xd.length : Int)) = false := decide_eq_false (by omega)
  have HP : Hid ((∀ y ∈ xv, FewE y) → FewP ⟨xk, xn, xb, xd, xz, xo, xv, xa⟩) := fun h => ⟨by show xn.length ≤ 100; omega, by show xv.length ≤ 100; omega, by show xd.length ≤ 300; omega, h⟩
  have hle : xv.length ≤ 100 := Nat.le_of_not_lt h2
  clear h1 h2 h3
  go_enter Tryz.func8, Tryz.ntmps8
  go_wp2_with fail
  go_loopg [26] xv.length (fun k a wr => ∃ (j : Nat), k = xv.length - j ∧ j ≤ xv.length ∧ a = .int .i64 (j : Nat) ∧ (∀ y ∈ xv.take j, FewE y) ∧ Below w.heap.size w wr)
  case atStart => exact ⟨0, rfl, Nat.zero_le _, rfl, (by intro y hy; cases hy), q0⟩
  case round =>
    obtain ⟨j, hk, hj, rfl, hall, hbl⟩ := hrel
    by_cases hlt : j < xv.length
    · have d4 : decide ((j : Int) < (xv.length : Int)) = true := decide_eq_true (by omega)
      obtain ⟨b, o, hA, hb1, hc⟩ := row_ex (Dt.below _ ha hbl (Nat.le_refl _)) (lt_ne hlt)
      obtain ⟨c1, c2, c3, A4, n4, c4, h4⟩ := hc j hlt
      subst hA
      have HA := Lib.hid hall
      have HT := Lib.hid (take_snoc hlt)
      clear hc ha hall d1 d2 d3
      generalize xv[j] = y at *
      obtain ⟨yk, yn, ys, yl⟩ := y
      dsimp only at c1 c2 c3 c4 h4
      have q2 := below_trans hbl (below_alloc1 wr (.cells #[.int .i64 yk, .int .i64 yn, .string ⟨ys.toArray⟩, .slice A4 yl.length n4] 50))
      have h42 := Dt.below _ h4 (below_alloc1 wr (.cells #[.int .i64 yk, .int .i64 yn, .string ⟨ys.toArray⟩, .slice A4 yl.length n4] 50)) (Nat.le_refl _)
      clear h4
      by_cases h5 : 100 < ys.length
      · have d5 : decide ((100 : Int) < (ys.length : Int)) = true := decide_eq_true (by omega)
        go_wp2_with fail
        refine bodyPost_ret (v := .bool false) (by simp [results, Tryz.results8, go_sem]) rfl ?_
        exact ⟨hno _, q2⟩
      have d5 : decide ((100 : Int) < (ys.length : Int)) = false := decide_eq_false (by omega)
      by_cases h6 : 100 < yl.length
      · have d6 : decide ((100 : Int) < (yl.length : Int)) = true := decide_eq_true (by omega)
        go_wp2_with fail
        refine bodyPost_ret (v := .bool false) (by simp [results, Tryz.results8, go_sem]) rfl ?_
        exact ⟨hno _, q2⟩
      have d6 : decide ((100 : Int) < (yl.length : Int)) = false := decide_eq_false (by omega)
      have HQ : Hid ((∀ z ∈ yl, z.s.length ≤ 100) → FewE ⟨yk, yn, ys, yl⟩) := fun h => ⟨by show ys.length ≤ 100; omega, by show yl.length ≤ 100; omega, h⟩
      have hle2 : yl.length ≤ 100 := Nat.le_of_not_lt h6
      clear h5 h6
      go_wp2_with fail
      generalize wr.alloc (.cells #[.int .i64 yk, .int .i64 yn, .string ⟨ys.toArray⟩, .slice A4 yl.length n4] 50) = w5 at *
      go_loopg [43] yl.length (fun k a w6 => ∃ (i : Nat), k = yl.length - i ∧ i ≤ yl.length ∧ a = .int .i64 (i : Nat) ∧ (∀ z ∈ yl.take i, z.s.length ≤ 100) ∧ Below w5.heap.size w5 w6)
      case atStart => exact ⟨0, rfl, Nat.zero_le _, rfl, (by intro y hy; cases hy), Below.refl _ _⟩
      case round =>
        obtain ⟨i, hk2, hi, rfl, hall2, hbl2⟩ := hrel
        have q3 := hbl2.mono q2.size
        have q4 := q2.trans q3
        by_cases hlt2 : i < yl.length
        · have d7 : decide ((i : Int) < (yl.length : Int)) = true := decide_eq_true (by omega)
          obtain ⟨b2, o2, hA2, hb2, hc2⟩ := row_e0 (Dt.below _ h42 hbl2 (Nat.le_refl _)) (lt_ne hlt2)
          obtain ⟨g1, g2, g3, A5, n5, g4⟩ := hc2 i hlt2
          subst hA2
          have HT2 := Lib.hid (take_snoc hlt2)
          have HA2 := Lib.hid hall2
          clear hc2 h42 hall2
          generalize yl[i] = z at *
          obtain ⟨zk, zn, zs, zm⟩ := z
          dsimp only at g1 g2 g3 g4
          by_cases h7 : 100 < zs.length
          · have d8 : decide ((100 : Int) < (zs.length : Int)) = true := decide_eq_true (by omega)
            go_wp2_with fail
            refine bodyPost_ret (v := .bool false) (by simp [results, Tryz.results8, go_sem]) rfl ?_
            exact ⟨hno _, below_trans q4 (below_alloc1 _ _)⟩
          · have d8 : decide ((100 : Int) < (zs.length : Int)) = false := decide_eq_false (by omega)
            have HZ : Hid (zs.length ≤ 100) := Nat.le_of_not_lt h7
            clear h7
            go_wp2_with fail
            go_roundg (yl.length - (i + 1))
            case measure => omega
            case rel =>
              refine ⟨i + 1, rfl, by omega, by simp, ?_, hbl2.trans ((below_alloc1 _ _).mono hbl2.size)⟩
              rw [HT2.out]
              intro z hz
              rcases List.mem_append.1 hz with hz | hz
              · exact HA2.out z hz
              · rw [List.mem_singleton.1 hz]
                exact HZ.out
        · have d7 : decide ((i : Int) < (yl.length : Int)) = false := decide_eq_false (by omega)
          have e2 : yl.take i = yl := List.take_of_length_le (by omega)
          rw [e2] at hall2
          have HE := Lib.hid (HQ.out hall2)
          clear hall2 h42 HQ
          go_wp2_with fail
          go_roundg (xv.length - (j + 1))
          case measure => omega
          case rel =>
            refine ⟨j + 1, rfl, by omega, by simp, ?_, q4⟩
            rw [HT.out]
            intro z hz
            rcases List.mem_append.1 hz with hz | hz
            · exact HA.out z hz
            · rw [List.mem_singleton.1 hz]
              exact HE.out
    · have d4 : decide ((j : Int) < (xv.length : Int)) = false := decide_eq_false (by omega)
      have e1 : xv.take j = xv := List.take_of_length_le (by omega)
      rw [e1] at hall
      have HE := Lib.hid (HP.out hall)
      clear hall ha
      go_wp2_with fail
      refine bodyPost_ret (v := .bool true) (by simp [results, Tryz.results8, go_sem]) rfl ⟨⟨true, rfl, fun _ => HE.out⟩, hbl⟩
end Go.Proofs.YtpfhgkielakmoaaGreatDoor
set_option maxHeartbeats 4000000
set_option maxRecDepth 100000
set_option linter.unusedSimpArgs false
set_option linter.unusedVariables false
namespace Go.Proofs.YtpfhgkielakmoaaGreatDoor
open Go.RowKit Num Go.Joins
theorem nameB_no {s:List UInt8} {l:List Tok} {p:Nat} {e:Int} (h:splitR s=(l,p,e)) (hn:∀t,l=[t]→e=0→t.k=1→t.t=s→False):nameB s=false:=by
 unfold nameB;rw[h];match l,hn with
 |[],_=>rfl
 |[t],hn=>
  have:(e==0&&(t.k==1&&t.t==s))=false:=by
   cases hc:(e==0&&(t.k==1&&t.t==s)) with
   |false=>rfl
   |true=>
    simp only[Bool.and_eq_true,beq_iff_eq]at hc;exact (hn t rfl hc.1 hc.2.1 hc.2.2).elim
  show ((e==0&&(t.k==1&&t.t==s))&&_)=false;rw[this];rfl
 |_::_::_,_=>rfl
theorem nameB_if {s:List UInt8} {t:Tok} {p:Nat} (h:splitR s=([t],p,0)) (h1:t.k=1) (h2:t.t=s):nameB s=((textP (wSolMin++s++[59])).2.2==0):=by
 unfold nameB;rw[h];show (((0:Int)==0&&(t.k==1&&t.t==s))&&_)=_;simp[h1,h2]
theorem split_big {s:List UInt8} {l:List Tok} {p:Nat} (h:splitR s=(l,p,0)):s.length≤8192:=by
 by_cases hb:8192<s.length
 ·unfold splitR at h;rw[if_pos hb]at h;injection h with _ h;injection h with _ h;exact absurd h (by decide)
 ·omega
theorem sol4 {s:List UInt8} {m:List Tok} (hm:m.map stripT=[aSolve,aMin,(1,s,0),aSemi]):isP wSolve m=true∧∀x l3 l4 u,itemP m= .ok x l3→takeP [59] l3= .ok u l4→l4=[]:=by
 match m,hm with
 |[⟨k1,t1,v1,p1⟩,⟨k2,t2,v2,p2⟩,⟨k3,t3,v3,p3⟩,⟨k4,t4,v4,p4⟩],hm=>
  injection hm with e1 hm;injection hm with e2 hm;injection hm with e3 hm;injection hm with e4 _;obtain ⟨a1,a2,a3⟩:k1=1∧t1=wSolve∧v1=0:=by injection e1 with a b;injection b with b c;exact ⟨a,b,c⟩
  obtain ⟨b1,b2,b3⟩:k2=1∧t2=wMinimize∧v2=0:=by injection e2 with a b;injection b with b c;exact ⟨a,b,c⟩
  obtain ⟨c1,c2,c3⟩:k4=3∧t4=[59]∧v4=0:=by injection e4 with a b;injection b with b c;exact ⟨a,b,c⟩
  subst a1 a2 a3 b1 b2 b3 c1 c2 c3;clear e1 e2 e3 e4 hm;refine ⟨rfl,fun x l3 l4 u h1 h2=> ?_⟩;have e:itemP [⟨1,wSolve,0,p1⟩,⟨1,wMinimize,0,p2⟩,⟨k3,t3,v3,p3⟩,⟨3,[59],0,p4⟩]=pbind nameP (fun nm=>pret (⟨6,nm,false,[],0,false,[],1⟩:It)) [⟨k3,t3,v3,p3⟩,⟨3,[59],0,p4⟩]:=rfl;rw[e]at h1;unfold pbind nameP at h1;by_cases hk:kindP [(⟨k3,t3,v3,p3⟩:Tok),⟨3,[59],0,p4⟩]=1
  ·rw[if_pos hk]at h1;obtain ⟨_,rfl⟩:_∧[(⟨3,[59],0,p4⟩:Tok)]=l3:=by injection h1 with a b;exact ⟨a,b⟩
   have e2:takeP [59] [(⟨3,[59],0,p4⟩:Tok)]= .ok () []:=rfl;rw[e2]at h2;injection h2 with _ h2;exact h2.symm
  ·rw[if_neg hk]at h1;cases h1
theorem sol_m {s:List UInt8} {t:Tok} {p:Nat} (h:splitR s=([t],p,0)) (h1:t.k=1) (h2:t.t=s):∃m:List Tok,m.map stripT=[aSolve,aMin,(1,s,0),aSemi]∧((splitR (wSolMin++s++[59])).2.2=0→(splitR (wSolMin++s++[59])).1=m):=by
 obtain ⟨ts,e1,e2,_,_,_⟩:=splitR_ok (l:=s) (by rw[h]);rw[h]at e2;have ha:=toks_alone _ _ (Nat.le_refl _) ts e1 (stripT t) (by rw[←e2];exact List.mem_cons_self);unfold stripT at ha;rw[h1,h2]at ha;have hv:=alone_val ha (by decide);rw[hv]at ha;have hsp:=(sol_spell ha).toks;by_cases hz:(splitR (wSolMin++s++[59])).2.2=0
 ·obtain ⟨ts2,k1,k2,_⟩:=splitR_ok hz;rw[hsp.1,hsp.2]at k1;obtain rfl:=Option.some.inj k1;exact ⟨_,k2,fun _=>rfl⟩
 ·exact ⟨[aSolve,aMin,(1,s,0),aSemi].map bare,strip_bare _,fun h=>absurd h hz⟩
theorem vname_any (s:ByteArray) (w:World) (hE:Env w):Calls Tryz.prog 89 #[.string s] w fun e w'=>e= .returned (.bool (nameB s.data.toList))∧Below w.heap.size w w':=by
 go_enter Tryz.func89,Tryz.ntmps89;go_wp2_with fail;refine (split_any s w hE.err).mono ?_;rintro e w1 h1;obtain ⟨A,c,rfl,hA,q1⟩:=h1.rd;clear h1;have hE1:=hE.err.below q1;cases hr:splitR s.data.toList with
 |mk l pe=>
  obtain ⟨p,er⟩:=pe;rw[hr]at hA;dsimp only at*;cases he:(er==0) with
  |false=>
   have he0:er≠0:=fun h=>by subst h;exact Bool.noConfusion he
   have hf:=Lib.hid (nameB_no hr fun t _ h _ _=>he0 h);clear hr hA;go_wp2_with fail;go_ret;exact ⟨by rw[hf.out];rfl,q1⟩
  |true=>
   obtain rfl:er=0:=eq_of_beq he;clear he;match l,hr,hA with
   |[],hr,hA=>
    have hf:=Lib.hid (nameB_no hr fun t h _ _ _=>by cases h);clear hr hA;go_wp2_with fail;go_ret;exact ⟨by rw[hf.out];rfl,q1⟩
   |t1::t2::l,hr,hA=>
    have hf:=Lib.hid (nameB_no hr fun t h _ _ _=>by cases h);clear hr hA;have hn:(((t1::t2::l).length:Int)==1)=false:=by
     cases h:(((t1::t2::l).length:Int)==1) with
     |false=>rfl
     |true=>
      have:=eq_of_beq h;simp only[List.length_cons]at this;omega
    generalize (t1::t2::l).length=n at*;have hn0:¬(n:Int)=1:=fun h=>by rw[h]at hn;exact Bool.noConfusion hn
    go_wp2_with fail;go_ret;exact ⟨by rw[hf.out];rfl,q1⟩
   |[t],hr,hA=>
    obtain ⟨b,o,hA1,hlt,hc⟩:=hA.at_ (by simp);subst hA1;obtain ⟨c1,c2,c3,c4⟩:=hc 0 (by simp);rw[Nat.zero_mul,Nat.add_zero]at c1 c2 c3 c4;have hbg:=split_big hr;clear hc hA;cases hk:(t.k==1) with
    |false=>
     have hk0:¬t.k=1:=fun h=>by rw[h]at hk;exact Bool.noConfusion hk
     have hf:=Lib.hid (nameB_no hr fun t2 h _ h2 _=>by injection h with h;subst h;rw[h2]at hk;exact Bool.noConfusion hk);clear hr;go_wp2_with fail;go_ret;exact ⟨by rw[hf.out];rfl,q1⟩
    |true=>
     have hk1:t.k=1:=eq_of_beq hk;by_cases hs:t.t=s.data.toList
     ·have hs2:t.t=s.toList:=by rw[ByteArray.toList_eq];exact hs
      have hf:=Lib.hid (nameB_if hr hk1 hs);have hz:s.size≤8192:=by simpa using hbg
      have hz1:¬9223372036854775807<15+s.size:=by omega
      have hz2:¬9223372036854775807<15+s.size+1:=by omega
      have HR0:=Lib.hid hr;have HK0:=Lib.hid hk1;have HS0:=Lib.hid hs;clear hr hbg;go_wp2_with fail;clear hz1 hz2;generalize hX:((⟨#[115,111,108,118,101,32,109,105,110,105,109,105,122,101,32]⟩:ByteArray)++s++⟨#[59]⟩)=X;have hx:X.data.toList=wSolMin++s.data.toList++[59]:=by
       rw[←hX];simp[wSolMin]
      have hxs:X.size≤1000000:=by
       have h1:X.data.toList.length=X.size:=by simp
       have h2:(wSolMin++s.data.toList++[59]).length=s.size+16:=by simp[wSolMin]
       rw[←h1,hx,h2];omega
      clear hX;obtain ⟨m,hm1,hm2⟩:=sol_m HR0.out HK0.out HS0.out;obtain ⟨hm3,hm4⟩:=sol4 hm1;refine (ptext_sol X w1 hE1 hxs m hm3 hm4 (by rw[hx];exact hm2)).mono ?_;rintro e w2 ⟨A2,c2,rfl,hv,q2⟩;rw[hx]at*;clear hv;generalize textP (wSolMin++s.data.toList++[59])=R at*;obtain ⟨xs,at_,er⟩:=R;dsimp only at*;go_wp2_with fail;go_ret;exact ⟨by rw[hf.out];rfl,below_trans q1 q2⟩
     ·have hs2:(t.t==s.toList)=false:=beq_false_of_ne (by rw[ByteArray.toList_eq];exact hs);have hf:=Lib.hid (nameB_no hr fun t2 h _ _ h2=>by
       injection h with h;subst h;exact hs h2)
      clear hr;go_wp2_with fail;go_ret;exact ⟨by rw[hf.out];rfl,q1⟩
end Go.Proofs.YtpfhgkielakmoaaGreatDoor
set_option maxHeartbeats 4000000
set_option maxRecDepth 100000
set_option linter.unusedSimpArgs false
set_option linter.unusedVariables false
namespace Go.Proofs.YtpfhgkielakmoaaGreatDoor
open Go.RowKit Num Go.Joins
def TXV (r:TX):Value:= .tuple #[.string ⟨r.1.toArray⟩,.bool r.2]
theorem vplain_any (k n:Int) (s:List UInt8) (m c:Nat) (A:Option Addr) (hn:I64 n) (w:World) (hE:Env w):Calls Tryz.prog 86 #[.agg #[.int .i64 k,.int .i64 n,.string ⟨s.toArray⟩,.slice A m c]] w fun e w'=>e= .returned (TXV (plain0S ⟨k,n,s,m⟩))∧Below w.heap.size w w':=by
 have q0:=below_alloc1 w (.cells #[.int .i64 k,.int .i64 n,.string ⟨s.toArray⟩,.slice A m c] 102);have hE1:=hE.below q0;have b0:Blk (w.alloc (.cells #[.int .i64 k,.int .i64 n,.string ⟨s.toArray⟩,.slice A m c] 102)) w.heap.size 102 #[.int .i64 k,.int .i64 n,.string ⟨s.toArray⟩,.slice A m c]:=Blk.new ..;rcases Nat.eq_zero_or_pos m with hm|hm
 ·subst hm;by_cases c1:k=1
  ·subst c1;cases s with
   |nil=>
    have hf:plain0S ⟨1,n,[],0⟩=(Lib.itoa n,true):=rfl;have HF:=Lib.hid hf;clear hf;go_enter Tryz.func86,Tryz.ntmps86;go_wp2_with fail;refine (vnum_any n hn _ hE1).mono ?_;rintro e w1 ⟨rfl,q1⟩;go_wp2_with fail;refine bodyPost_ret (v:=TXV ((Lib.itoa n),true)) (by simp[results,Tryz.results86,go_sem,TXV,wTrue,wFalse]) rfl ?_;exact ⟨by rw[HF.out],below_trans q0 q1⟩
   |cons a r=>
    have hf:plain0S ⟨1,n,a::r,0⟩=([],false):=by
     unfold plain0S;simp
    have hs:((a::r)==(ByteArray.toList ⟨#[]⟩))=false:=by rw[ByteArray.toList_eq];rfl
    have HF:=Lib.hid hf;clear hf;go_enter Tryz.func86,Tryz.ntmps86;go_wp2_with fail;refine bodyPost_ret (v:=TXV ([],false)) (by simp[results,Tryz.results86,go_sem,TXV,wTrue,wFalse]) rfl ?_;exact ⟨by rw[HF.out],q0⟩
  ·by_cases c2:k=2
   ·subst c2;cases s with
    |nil=>
     by_cases n1:n=1
     ·subst n1;have HF:=Lib.hid (show plain0S ⟨2,1,[],0⟩=(wTrue,true) from rfl);go_enter Tryz.func86,Tryz.ntmps86;go_wp2_with fail;refine bodyPost_ret (v:=TXV (wTrue,true)) (by simp[results,Tryz.results86,go_sem,TXV,wTrue,wFalse]) rfl ?_;exact ⟨by rw[HF.out],q0⟩
     ·by_cases n0:n=0
      ·subst n0;have HF:=Lib.hid (show plain0S ⟨2,0,[],0⟩=(wFalse,true) from rfl);go_enter Tryz.func86,Tryz.ntmps86;go_wp2_with fail;refine bodyPost_ret (v:=TXV (wFalse,true)) (by simp[results,Tryz.results86,go_sem,TXV,wTrue,wFalse]) rfl ?_;exact ⟨by rw[HF.out],q0⟩
      ·have HF:=Lib.hid (show plain0S ⟨2,n,[],0⟩=([],false) by unfold plain0S;simp[n1,n0]);go_enter Tryz.func86,Tryz.ntmps86;go_wp2_with fail;refine bodyPost_ret (v:=TXV ([],false)) (by simp[results,Tryz.results86,go_sem,TXV,wTrue,wFalse]) rfl ?_;exact ⟨by rw[HF.out],q0⟩
    |cons a r=>
     have hs:((a::r)==(ByteArray.toList ⟨#[]⟩))=false:=by rw[ByteArray.toList_eq];rfl
     have HF:=Lib.hid (show plain0S ⟨2,n,a::r,0⟩=([],false) by unfold plain0S;simp);go_enter Tryz.func86,Tryz.ntmps86;go_wp2_with fail;refine bodyPost_ret (v:=TXV ([],false)) (by simp[results,Tryz.results86,go_sem,TXV,wTrue,wFalse]) rfl ?_;exact ⟨by rw[HF.out],q0⟩
   ·by_cases c3:k=3
    ·subst c3;by_cases n0:n=0
     ·subst n0;go_enter Tryz.func86,Tryz.ntmps86;go_wp2_with fail;refine (vname_any ⟨s.toArray⟩ _ hE1).mono ?_;rintro e w1 ⟨rfl,q1⟩;have b1:=b0.below q1 (Nat.le_refl _);obtain ⟨r1,r2,r3,r4⟩:=b1.four;have hd:nameB (⟨s.toArray⟩:ByteArray).data.toList=nameB s:=rfl;rw[hd];cases hb:nameB s with
      |true=>
       have HF:=Lib.hid (show plain0S ⟨3,0,s,0⟩=(s,true) by unfold plain0S;simp[hb]);go_wp2_with fail;refine bodyPost_ret (v:=TXV (s,true)) (by simp[results,Tryz.results86,go_sem,TXV,wTrue,wFalse]) rfl ?_;exact ⟨by rw[HF.out],below_trans q0 q1⟩
      |false=>
       have HF:=Lib.hid (show plain0S ⟨3,0,s,0⟩=([],false) by unfold plain0S;simp[hb]);go_wp2_with fail;refine bodyPost_ret (v:=TXV ([],false)) (by simp[results,Tryz.results86,go_sem,TXV,wTrue,wFalse]) rfl ?_;exact ⟨by rw[HF.out],below_trans q0 q1⟩
     ·have HF:=Lib.hid (show plain0S ⟨3,n,s,0⟩=([],false) by unfold plain0S;simp[n0]);go_enter Tryz.func86,Tryz.ntmps86;go_wp2_with fail;refine bodyPost_ret (v:=TXV ([],false)) (by simp[results,Tryz.results86,go_sem,TXV,wTrue,wFalse]) rfl ?_;exact ⟨by rw[HF.out],q0⟩
    ·have HF:=Lib.hid (show plain0S ⟨k,n,s,0⟩=([],false) by unfold plain0S;simp[c1,c2,c3]);go_enter Tryz.func86,Tryz.ntmps86;go_wp2_with fail;refine bodyPost_ret (v:=TXV ([],false)) (by simp[results,Tryz.results86,go_sem,TXV,wTrue,wFalse]) rfl ?_;exact ⟨by rw[HF.out],q0⟩
 ·have hm1:¬m=0:=by omega
  have hm2:(0:Int)<m:=by omega
  have hf:plain0S ⟨k,n,s,m⟩=([],false):=if_pos hm;have HF:=Lib.hid hf;clear hf;go_enter Tryz.func86,Tryz.ntmps86;go_wp2_with fail;refine bodyPost_ret (v:=TXV ([],false)) (by simp[results,Tryz.results86,go_sem,TXV,wTrue,wFalse]) rfl ?_;exact ⟨by rw[HF.out],q0⟩
end Go.Proofs.YtpfhgkielakmoaaGreatDoor

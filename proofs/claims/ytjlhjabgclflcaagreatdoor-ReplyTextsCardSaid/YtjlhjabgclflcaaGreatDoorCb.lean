import Derived.Test.YtjlhjabgclflcaaGreatDoorCa
import Derived.Test.YtjlhjabgclflcaaGreatDoorCe
import Derived.Test.YtjlhjabgclflcaaGreatDoorZl
set_option maxHeartbeats 8000000
set_option maxRecDepth 100000
set_option linter.unusedSimpArgs false
set_option linter.unusedVariables false
namespace Go.Proofs.YtjlhjabgclflcaaGreatDoor
open Go.RowKit Num Go.Joins
theorem d23own_any {F G : Nat → Prop} (A : Option Addr) (c : Nat) (l : List Ot) (B : Option Addr) (d : Nat) (a : List Int) (w : World) (ho : (layO 45 3).row.P F w (.slice A l.length c) l) (ha : (layN 2).row.P G w (.slice B a.length d) a)
    (hn : l.length ≤ 100) (hm : ∀ o ∈ l, o.x.length ≤ 100) (han : a.length ≤ 100000) :
    Calls Tryz.prog 19 #[.slice A l.length c, .slice B a.length d] w fun e w' => ((ownO a l = none ∧ e = .returned (.tuple #[.slice none 0 0, .bool false])) ∨
      ∃ vs v, ownO a l = some vs ∧ e = .returned (.tuple #[v, .bool true]) ∧ (layV 23 2).own w.heap.size w' v vs) ∧ Below w.heap.size w w' := by
  go_enter Tryz.func19, Tryz.ntmps19
  go_wp2_with fail
  go_loopg [7, 6] l.length (fun k p v wr => ∃ (j : Nat) (vs : List (List Int)), k = l.length - j ∧ j ≤ l.length ∧ p = .int .i64 (j : Nat) ∧ ownO a (l.take j) = some vs ∧ (layV 23 2).own w.heap.size wr v vs ∧ Below w.heap.size w wr)
  case atStart => exact ⟨0, [], rfl, Nat.zero_le _, rfl, rfl, Lay.own_nil _ _ _, Below.refl _ _⟩
  case round =>
    obtain ⟨j, vs, hk, hj, rfl, hvs, how, hbl⟩ := hrel
    obtain ⟨W0, rfl⟩ : ∃ W0, W0 = wr := ⟨_, rfl⟩
    by_cases hlt : j < l.length
    · have d1 : decide ((j : Int) < (l.length : Int)) = true := decide_eq_true (by omega)
      obtain ⟨b, o, hA, hb1, hc⟩ := row_o (Dt.below _ ho hbl (Nat.le_refl _)) (row_ne hlt)
      obtain ⟨-, -, -, A3, n3, c3, hrow⟩ := hc j hlt
      subst hA
      clear hc
      have HT := Lib.hid (List.take_succ_eq_append_getElem hlt)
      have HM := Lib.hid (List.getElem_mem hlt)
      have HX := Lib.hid (hm _ (List.getElem_mem hlt))
      have HV := Lib.hid hvs
      clear hvs
      generalize hx0 : l[j] = x at *
      clear hx0
      obtain ⟨xn, xb, xa, xx⟩ := x
      dsimp only at c3 hrow HX
      have HOW := Lib.hid how
      clear how
      go_wp2_with fail
      go_loopg [9, 8] xx.length (fun k p v w2 => ∃ (i : Nat) (vv : List Int), k = xx.length - i ∧ i ≤ xx.length ∧ p = .int .i64 (i : Nat) ∧ valsO a (xx.take i) = some vv ∧ (layN 2).own W0.heap.size w2 v vv ∧ Below W0.heap.size W0 w2)
      case atStart => exact ⟨0, [], rfl, Nat.zero_le _, rfl, rfl, Lay.own_nil _ _ _, Below.refl _ _⟩
      case round =>
        obtain ⟨i, v, hk2, hi, rfl, hv, hov, q2⟩ := hrel
        have hxl : xx.length ≤ 100 := HX.out
        have q3 := below_trans hbl q2
        have c4 := (q2.cell (p := ⟨b, o + j * 4 + 3, none⟩) hb1).trans c3
        by_cases hit : i < xx.length
        · have d2 : decide ((i : Int) < (xx.length : Int)) = true := decide_eq_true (by omega)
          obtain ⟨b3, o3, hA3, hb3, hc3⟩ := row_n (Dt.below _ hrow q2 (Nat.le_refl _)) (row_ne hit)
          have k1 := hc3 i hit
          subst hA3
          clear hc3
          have HT2 := Lib.hid (List.take_succ_eq_append_getElem hit)
          have HM2 := Lib.hid (List.getElem_mem hit)
          have HV2 := Lib.hid hv
          clear hv
          generalize hx1 : xx[i] = x at *
          clear hx1
          by_cases hneg : x < 0
          · have d3 : decide (x < 0) = true := decide_eq_true hneg
            have HN : Hid (ownO a l = none) := ownO_no HM.out (valsO_no HM2.out (by unfold valO; rw [if_neg (by omega)]))
            clear hneg
            go_wp2_with fail
            refine bodyPost_ret (v := .tuple #[.slice none 0 0, .bool false]) (by simp [results, Tryz.results19, go_sem]) rfl ⟨.inl ⟨HN.out, rfl⟩, q3⟩
          · obtain ⟨m, rfl⟩ := Int.eq_ofNat_of_zero_le (by omega : 0 ≤ x)
            have d3 : decide ((m : Int) < 0) = false := decide_eq_false (by omega)
            by_cases hbig : a.length ≤ m
            · have d4 : decide ((a.length : Int) ≤ (m : Int)) = true := decide_eq_true (by omega)
              have d5 : decide (a.length ≤ m) = true := decide_eq_true hbig
              have HN : Hid (ownO a l = none) := ownO_no HM.out (valsO_no HM2.out (by unfold valO; rw [if_pos (by omega), Int.toNat_natCast, List.getElem?_eq_none hbig]))
              clear hneg hbig
              go_wp2_with fail
              refine bodyPost_ret (v := .tuple #[.slice none 0 0, .bool false]) (by simp [results, Tryz.results19, go_sem]) rfl ⟨.inl ⟨HN.out, rfl⟩, q3⟩
            · have hml : m < a.length := by omega
              have d4 : decide ((a.length : Int) ≤ (m : Int)) = false := decide_eq_false (by omega)
              have d5 : decide (a.length ≤ m) = false := decide_eq_false (by omega)
              obtain ⟨ba, oa, hBa, hba, hca⟩ := row_n (Dt.below _ ha q3 (Nat.le_refl _)) (row_ne hml)
              have k2 := hca m hml
              subst hBa
              clear hca hneg hbig
              have HV3 : Hid (valO a (m : Int) = some a[m]) := by
                show _ = _
                unfold valO
                rw [if_pos (by omega), Int.toNat_natCast, List.getElem?_eq_getElem hml]
              generalize hx2 : a[m] = n at *
              clear hx2
              have HV4 : Hid (valsO a (xx.take (i + 1)) = some (v ++ [n])) := by
                show _ = _
                rw [HT2.out, valsO_snoc, HV2.out, HV3.out]
                rfl
              obtain ⟨v2, hv2⟩ : ∃ v2, v ++ [n] = v2 := ⟨_, rfl⟩
              have HS := Lib.hid hv2
              rw [hv2] at HV4
              clear hv2
              have hlen : v.length ≤ 1000000 := by
                have := valsO_len HV2.out
                rw [List.length_take] at this
                omega
              have hbs := q2.size
              go_wp2_with (at_builtin; refine Lay.wp_app (layN 2) _ _ wr W0.heap.size _ v n #[.int .i64 n] (by first | rfl | simp) Tryz.underlying23 info_n64 rfl (by decide) (by decide) hov hbs hlen rfl rfl n_new rfl rfl rfl rfl ?_; intro v7 w7 ho7 hg7 hb7 hat7; rw [HS.out] at ho7)
              go_roundg (xx.length - (i + 1))
              case measure => omega
              case rel => exact ⟨i + 1, v2, rfl, by omega, by simp, HV4.out, ho7, q2.trans hb7⟩
        · have d2 : decide ((i : Int) < (xx.length : Int)) = false := decide_eq_false (by omega)
          have e1 : xx.take i = xx := List.take_of_length_le (by omega)
          rw [e1] at hv
          clear e1
          obtain ⟨A8, c8, rfl⟩ := Lay.own_len hov
          have hlt9 := Lay.own_lt HOW.out
          have hrow2 := (layN 2).row.mono (F' := inF w.heap.size wr u6) (fun b hb => ⟨Nat.le_trans hbl.size hb.1, hb.2, fun e => by
            have := (hlt9 b e).2
            have := hb.1
            omega⟩) (Lay.own_row hov)
          have how2 := Lay.own_below HOW.out q2
          have hbs : w.heap.size ≤ wr.heap.size := q3.size
          have hvl := ownO_len HV.out
          rw [List.length_take] at hvl
          have hlen : vs.length ≤ 1000000 := by omega
          have HW : Hid (ownO a (l.take (j + 1)) = some (vs ++ [v])) := by
            show _ = _
            rw [HT.out, ownO_snoc, HV.out]
            show (valsO a xx).map _ = _
            rw [hv]
            rfl
          clear hrow hvl hv hlt9
          go_wp2_with (at_builtin; refine Lay.wp_app (layV 23 2) _ _ wr w.heap.size _ vs v #[.slice A8 v.length c8] (by first | rfl | simp) Tryz.underlying38 info_vals rfl (by decide) (by decide) how2 hbs hlen rfl rfl (v_new hrow2) rfl rfl rfl rfl ?_; intro v' w7 ho7 hg7 hb7 hat7)
          go_roundg (l.length - (j + 1))
          case measure => omega
          case rel => exact ⟨j + 1, vs ++ [v], rfl, by omega, by simp, HW.out, ho7, q3.trans hb7⟩
    · have d1 : decide ((j : Int) < (l.length : Int)) = false := decide_eq_false (by omega)
      have e1 : l.take j = l := List.take_of_length_le (by omega)
      rw [e1] at hvs
      clear e1
      obtain ⟨A9, c9, rfl⟩ := Lay.own_len how
      have HV := Lib.hid hvs
      have HO := Lib.hid how
      clear hvs how ho ha hm
      go_wp2_with fail
      refine bodyPost_ret (v := .tuple #[.slice A9 vs.length c9, .bool true]) (by simp [results, Tryz.results19, go_sem]) rfl ⟨.inr ⟨vs, _, HV.out, rfl, HO.out⟩, hbl⟩
def rightD (outs:List Ot) (a:List Int):Bool:=match ownO a outs with
 |none=>false
 |some vs=>decide (outs.length≤64)&&maysD outs vs
def mayZ (p:Ot×List Int):Bool:=mayD p.1 p.2
theorem maysD_zip:∀(l:List Ot) (vs:List (List Int)),maysD l vs=(l.zip vs).all mayZ
 |[],_=>by unfold maysD;rfl
 |_::_,[]=>rfl
 |o::l,v::r=>by
  show (mayD o v&&maysD l r)=((o,v)::l.zip r).all mayZ;rw[maysD_zip l r];rfl
theorem rightD_no {outs:List Ot} {a:List Int} (h:ownO a outs=none):rightD outs a=false:=by
 unfold rightD;rw[h]
theorem rightD_some {outs:List Ot} {a:List Int} {vs:List (List Int)} (h:ownO a outs=some vs):rightD outs a=(decide (outs.length≤64)&&(outs.zip vs).all mayZ):=by
 unfold rightD;rw[h];show (_&&maysD outs vs)=_;rw[maysD_zip]
theorem d23Right_any {F G:Nat→Prop} (A:Option Addr) (c:Nat) (l:List Ot) (B:Option Addr) (d:Nat) (a:List Int) (w:World) (ho:(layO 45 3).row.P F w (.slice A l.length c) l) (ha:(layN 2).row.P G w (.slice B a.length d) a) (hn:FewO l) (han:a.length≤100000):Calls Tryz.prog 12 #[.slice A l.length c,.slice B a.length d] w fun e w'=>e= .returned (.bool (rightD l a))∧Below w.heap.size w w':=by
 have HC:=Lib.hid (d23own_any A c l B d a w ho ha hn.1 (fun o ho=>(hn.2 o ho).2) han);have HN:=Lib.hid (@rightD_no l a);have HS:=Lib.hid (fun vs (h:ownO a l=some vs)=>rightD_some h);have HL:=Lib.hid (fun vs (h:ownO a l=some vs)=>ownO_len h);have hnl:=hn.1;have HFew:=Lib.hid hn.2;clear ha hn han;generalize rightD l a=D at*;go_enter Tryz.func12,Tryz.ntmps12;go_wp2_with fail;refine HC.out.mono ?_;rintro e w1 ⟨⟨hn,rfl⟩|⟨vs,v,hv,rfl,hown⟩,q1⟩
 ·have H:=Lib.hid (HN.out hn);clear hn;go_wp2_with fail;refine bodyPost_ret (v:= .bool false) (by simp[results,Tryz.results12,go_sem]) rfl ⟨?_,?_⟩
  ·rw[H.out]
  ·exact q1
 ·have H:=Lib.hid (HS.out vs hv);have HLn:=Lib.hid (HL.out vs hv);obtain ⟨A9,c9,rfl⟩:=Lay.own_len hown;have hrow:=Lay.own_row hown;clear hv hown HN HS HL HC;by_cases hbig:l.length≤64
  ·have d1:decide ((64:Int)<(l.length:Int))=false:=decide_eq_false (by omega);have d2:decide (64<l.length)=false:=decide_eq_false (by omega);have HD:Hid (D=(l.zip vs).all mayZ):=by
    show _=_;rw[H.out,decide_eq_true hbig];rfl
   clear hbig H;go_wp2_with fail;go_loopg [7] l.length (fun k p wr=>∃(j:Nat),k=l.length-j∧j≤l.length∧p= .int .i64 (j:Nat)∧(((l.zip vs).take j).all mayZ)=true∧Below w1.heap.size w1 wr)
   case atStart=>exact ⟨0,rfl,Nat.zero_le _,rfl,rfl,Below.refl _ _⟩
   case round=>
    obtain ⟨j,hk,hj,rfl,hall,hbl⟩:=hrel;have HA:=Lib.hid hall;clear hall;by_cases hlt:j<l.length
    ·have d3:decide ((j:Int)<(l.length:Int))=true:=decide_eq_true (by omega);have hlt2:j<vs.length:=by rw[HLn.out];exact hlt
     obtain ⟨b,o,hA,hb1,hc⟩:=row_o (Dt.below _ ho (below_trans q1 hbl) (Nat.le_refl _)) (row_ne hlt);obtain ⟨c0,c1,c2,A3,n3,c3,-⟩:=hc j hlt;obtain ⟨b',o',hB,hb2,hc'⟩:=row_v (Dt.below _ hrow hbl (Nat.le_refl _)) (row_ne hlt2);obtain ⟨A4,n4,k0,hx⟩:=hc' j hlt2;subst hA hB;clear hc hc';have hzl:j<(l.zip vs).length:=by rw[List.length_zip,HLn.out,Nat.min_self];exact hlt
     have hz:(l.zip vs)[j]=(l[j],vs[j]):=List.getElem_zip;have HE:=Lib.hid (fun (h:mayD l[j] vs[j]=true)=>all_step hzl HA.out (by rw[hz];exact h));have HZ:=Lib.hid (fun (h:mayD l[j] vs[j]=false)=>all_no (p:=mayZ) hzl (by rw[hz];exact h));have HR:=Lib.hid (fun (w':World) (q:Below wr.heap.size wr w')=>d23right_any l[j] vs[j] A3 n3 A4 n4 w' (Dt.below _ hx q (Nat.le_refl _)));clear hz hzl hx;generalize l[j]=x at*;generalize vs[j]=y at*;obtain ⟨xn,xb,xa,xx⟩:=x;dsimp only at c0 c1 c2 c3 HR;obtain ⟨md,hmd⟩:∃md,mayD ⟨xn,xb,xa,xx⟩ y=md:=⟨_,rfl⟩;rw[hmd]at HR HE HZ;clear hmd;go_upto_region 7 with fail;have M:Mem wr wr [] []:=Mem.start wr;refine region_st (n:=10) (frame:= ?frame1) (fun jK=>[.val (.fix (.slice (some ⟨b,o,none⟩) l.length c)),.val (.fix (.int .i64 j)),.val (.fix (.pointer (some ⟨b,o+j*4,none⟩))),.val (.fix (.agg #[.string ⟨xn.toArray⟩,.bool xb,.bool xa,.slice A3 xx.length n3])),.val (.fix (.slice (some ⟨b',o',none⟩) vs.length c9)),.val (.fix (.int .i64 j)),.val (.fix (.pointer (some ⟨b',o'+j,none⟩))),.val (.fix (.slice A4 y.length n4)),.val (.fix (.bool md)),.val (.fix (.bool (!md)))].getD jK .none) [] (by kernel_rfl) (by kernel_rfl) (by kernel_rfl) rfl M (fun _ h=>by cases h) (fun _ h=>by cases h) ?_ ?_ ?_
     case refine_1=>
      intro s;simp only[fr,Act.put,List.append_eq,List.cons_append,List.nil_append,List.setIfInBounds_toArray,List.set_cons_zero,List.set_cons_succ,Nat.reduceAdd];rfl
     case refine_2=>
      refine SC 0 1 rfl ?_ (SC 1 2 rfl ?_ (SC 2 3 rfl ?_ (SC 3 4 rfl ?_ (SC 4 5 rfl ?_ (SC 5 6 rfl ?_ (SC 6 7 rfl ?_ (SC 7 8 rfl ?_ (SC 8 9 rfl ?_ (SC 9 10 rfl ?_ Steps.nil)))))))));all_goals (intro L s w9 hN hU hi hS K hK;dsimp only at hK⊢;simp only[Act.put,List.setIfInBounds_toArray,List.set_cons_zero,List.set_cons_succ]at hK)
      ·go_simp;exact hK.out _ _ (hS.v0 rfl rfl rfl)
      ·go_simp;exact hK.out _ _ (hS.v0 rfl rfl rfl)
      ·have e0:=hS.fx 0 rfl rfl (hN.out 0 rfl);simp only[e0]at hK⊢;have e1:=hS.fx 1 rfl rfl (hN.out 1 rfl);simp only[e1]at hK⊢;go_simp;exact hK.out _ _ (hS.v0 rfl rfl rfl)
      ·have e2:=hS.fx 2 rfl rfl (hN.out 2 rfl);simp only[e2]at hK⊢;have u0:=(hS.mem.bel.cell (p:=⟨b,o+j*4,none⟩) hb1).trans c0;have u1:=(hS.mem.bel.cell (p:=⟨b,o+j*4+1,none⟩) hb1).trans c1;have u2:=(hS.mem.bel.cell (p:=⟨b,o+j*4+2,none⟩) hb1).trans c2;have u3:=(hS.mem.bel.cell (p:=⟨b,o+j*4+3,none⟩) hb1).trans c3;go_simp;exact hK.out _ _ (hS.v0 rfl rfl rfl)
      ·go_simp;exact hK.out _ _ (hS.v0 rfl rfl rfl)
      ·go_simp;exact hK.out _ _ (hS.v0 rfl rfl rfl)
      ·have e4:=hS.fx 4 rfl rfl (hN.out 4 rfl);simp only[e4]at hK⊢;have e5:=hS.fx 5 rfl rfl (hN.out 5 rfl);simp only[e5]at hK⊢;go_simp;exact hK.out _ _ (hS.v0 rfl rfl rfl)
      ·have e6:=hS.fx 6 rfl rfl (hN.out 6 rfl);simp only[e6]at hK⊢;have u0:=(hS.mem.bel.cell (p:=⟨b',o'+j,none⟩) hb2).trans k0;go_simp;exact hK.out _ _ (hS.v0 rfl rfl rfl)
      ·have e3:=hS.fx 3 rfl rfl (hN.out 3 rfl);simp only[e3]at hK⊢;have e7:=hS.fx 7 rfl rfl (hN.out 7 rfl);simp only[e7]at hK⊢;go_simp;go_at_call 22;refine (HR.out _ hS.mem.bel).mono ?_;rintro e9 w10 ⟨rfl,q⟩;exact hK.out _ _ (hS.val rfl (noStore_of rfl) q rfl)
      ·have e8:=hS.fx 8 rfl rfl (hN.out 8 rfl);simp only[e8]at hK⊢;go_simp;exact hK.out _ _ (hS.v0 rfl rfl rfl)
     intro L s w9 hall hS;have eL:s 9= .bool (!md):=hS.val_at 9 rfl (by decide) (hall 9 (by decide));have hbl3:=below_trans hbl hS.mem.bel;clear hS hall;cases md with
     |false=>
      have HF:=Lib.hid (HZ.out rfl);go_wp2_with fail;refine bodyPost_ret (v:= .bool false) (by simp[results,Tryz.results12,go_sem]) rfl ⟨?_,?_⟩
      ·rw[HD.out,HF.out]
      ·exact below_trans q1 hbl3
     |true=>
      have HF:=Lib.hid (HE.out rfl);go_wp2_with fail;go_roundg (l.length-(j+1))
      case measure=>omega
      case rel=>exact ⟨j+1,rfl,by omega,by simp,HF.out,hbl3⟩
    ·have d3:decide ((j:Int)<(l.length:Int))=false:=decide_eq_false (by omega);have HF:Hid ((l.zip vs).all mayZ=true):=all_end (k:=j) (by rw[List.length_zip,HLn.out,Nat.min_self];omega) HA.out;clear ho hrow;go_wp2_with fail;refine bodyPost_ret (v:= .bool true) (by simp[results,Tryz.results12,go_sem]) rfl ⟨?_,?_⟩
     ·rw[HD.out,HF.out]
     ·exact below_trans q1 hbl
  ·have d1:decide ((64:Int)<(l.length:Int))=true:=decide_eq_true (by omega);have d2:decide (64<l.length)=true:=decide_eq_true (by omega);have HF:Hid (D=false):=by
    show _=_;rw[H.out,decide_eq_false hbig];rfl
   clear hbig H hrow ho;go_wp2_with fail;refine bodyPost_ret (v:= .bool false) (by simp[results,Tryz.results12,go_sem]) rfl ⟨?_,?_⟩
   ·rw[HF.out]
   ·exact q1
end Go.Proofs.YtjlhjabgclflcaaGreatDoor

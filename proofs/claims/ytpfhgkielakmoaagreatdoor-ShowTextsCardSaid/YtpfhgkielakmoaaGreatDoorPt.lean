/-
  Joined texts: Ps, Pt.
-/
import Derived.Test.YtpfhgkielakmoaaGreatDoorPn
set_option maxHeartbeats 8000000
set_option maxRecDepth 100000
set_option linter.unusedSimpArgs false
set_option linter.unusedVariables false
namespace Go.Proofs.YtpfhgkielakmoaaGreatDoor
open Go.RowKit Num
theorem info_rexz:(Tryz.prog.info? 50).map (·.size)=some 4:=by kernel_rfl
theorem info_ritz:(Tryz.prog.info? 28).map (·.size)=some 8:=by kernel_rfl
def ex0B (p q:Ex0):Bool:= !(p.k !=q.k||(p.n !=q.n||(p.s !=q.s||(decide (0<p.m)||decide (0<q.m)))))
def ex0sB:List Ex0→List Ex0→Bool
 |[],[]=>true
 |p::a,q::b=>ex0B p q&&ex0sB a b
 |_,_=>false
def exB (x y:Ex):Bool:= !(x.k !=y.k||(x.n !=y.n||(x.s !=y.s||(x.l.length !=y.l.length))))&&ex0sB x.l y.l
def exsB:List Ex→List Ex→Bool
 |[],[]=>true
 |p::a,q::b=>exB p q&&exsB a b
 |_,_=>false
theorem exsB_len:∀{a b:List Ex},a.length≠b.length→exsB a b=false
 |[],[],h=>absurd rfl h
 |[],_::_,_=>rfl
 |_::_,[],_=>rfl
 |x::a,y::b,h=>by
  show (exB x y&&exsB a b)=false;rw[exsB_len (a:=a) (b:=b) (fun e=>h (by rw[List.length_cons,List.length_cons,e])),Bool.and_false]
theorem exsB_drop {a b:List Ex} {j:Nat} (h1:j<a.length) (h2:j<b.length):exsB (a.drop j) (b.drop j)=(exB a[j] b[j]&&exsB (a.drop (j+1)) (b.drop (j+1))):=by
 rw[List.drop_eq_getElem_cons h1,List.drop_eq_getElem_cons h2];rfl
theorem ex0sB_drop {a b:List Ex0} {j:Nat} (h1:j<a.length) (h2:j<b.length):ex0sB (a.drop j) (b.drop j)=(ex0B a[j] b[j]&&ex0sB (a.drop (j+1)) (b.drop (j+1))):=by
 rw[List.drop_eq_getElem_cons h1,List.drop_eq_getElem_cons h2];rfl
theorem exsB_end {a b:List Ex} {j:Nat} (h1:a.length≤j) (h2:b.length≤j):exsB (a.drop j) (b.drop j)=true:=by
 rw[List.drop_of_length_le h1,List.drop_of_length_le h2];rfl
theorem ex0sB_end {a b:List Ex0} {j:Nat} (h1:a.length≤j) (h2:b.length≤j):ex0sB (a.drop j) (b.drop j)=true:=by
 rw[List.drop_of_length_le h1,List.drop_of_length_le h2];rfl
theorem retb {b c:Bool} (h:b=c):Ending.returned (.bool c)= .returned (.bool b):=by rw[h]
theorem rexprs_any {F G:Nat→Prop} (A B:Option Addr) (c d:Nat) (la lb:List Ex) (w:World) (ha:(layE 50).row.P F w (.slice A la.length c) la) (hb:(layE 50).row.P G w (.slice B lb.length d) lb) (hn:la.length≤10000) (hm:∀x∈la,x.l.length≤10000):Calls Tryz.prog 26 #[.slice A la.length c,.slice B lb.length d] w fun e w'=>e= .returned (.bool (exsB la lb))∧Below w.heap.size w w':=by
 have HM:=Lib.hid hm;clear hm;by_cases hl:la.length=lb.length
 ·have d0:((la.length:Int) !=(lb.length:Int))=false:=by rw[hl];simp
  have HL:=Lib.hid hl;clear hl;go_enter Tryz.func26,Tryz.ntmps26;go_wp2_with fail;go_loopg [5] la.length (fun k a wr=>∃j,k=la.length-j∧j≤la.length∧a= .int .i64 (j:Nat)∧Hid (exsB la lb=exsB (la.drop j) (lb.drop j))∧Below w.heap.size w wr)
  case atStart=>exact ⟨0,rfl,Nat.zero_le _,rfl,rfl,Below.refl _ _⟩
  case round=>
   obtain ⟨j,hk,hj,rfl,hT,hbl⟩:=hrel;by_cases hlt:j<la.length
   ·have hlt2:j<lb.length:=by have:=HL.out;omega
    have d1:decide ((j:Int)<(la.length:Int))=true:=decide_eq_true (by omega);obtain ⟨b,o,hA,hb1,hc⟩:=row_ex (Dt.below _ ha hbl (Nat.le_refl _)) (lt_ne hlt);obtain ⟨b',o',hB,hb2,hc'⟩:=row_ex (Dt.below _ hb hbl (Nat.le_refl _)) (lt_ne hlt2);obtain ⟨c1,c2,c3,A3,n3,c4,hx⟩:=hc j hlt;obtain ⟨e1,e2,e3,B3,m3,e4,hy⟩:=hc' j hlt2;have ht:=hT.out.trans (exsB_drop hlt hlt2);have hm1:=HM.out la[j] (List.getElem_mem hlt);clear hc hc' hT;subst hA hB;generalize la[j]=x at*;generalize lb[j]=y at*;obtain ⟨xk,xn,xs,xl⟩:=x;obtain ⟨yk,yn,ys,yl⟩:=y;dsimp only at c1 c2 c3 c4 e1 e2 e3 e4 hx hy hm1;have HT:=Lib.hid ht;clear ht;go_upto_region 6 with fail;have M:Mem wr wr [] []:=Mem.start wr;refine region_st (n:=12) (frame:= ?frame1) (fun jK=>[.val (.fix (.slice (some ⟨b,o,none⟩) la.length c)),.val (.fix (.int .i64 j)),.val (.fix (.pointer (some ⟨b,o+j*4,none⟩))),.val (.fix (.agg #[.int .i64 xk,.int .i64 xn,.string ⟨xs.toArray⟩,.slice A3 xl.length n3])),.val (.fix (.slice (some ⟨b',o',none⟩) lb.length d)),.val (.fix (.int .i64 j)),.val (.fix (.pointer (some ⟨b',o'+j*4,none⟩))),.val (.fix (.agg #[.int .i64 yk,.int .i64 yn,.string ⟨ys.toArray⟩,.slice B3 yl.length m3])),.cell 10 50 #[.int .i64 0,.int .i64 0,.string ⟨#[]⟩,.slice none 0 0] (.fix (#[.int .i64 xk,.int .i64 xn,.string ⟨xs.toArray⟩,.slice A3 xl.length n3])),.cell 11 50 #[.int .i64 0,.int .i64 0,.string ⟨#[]⟩,.slice none 0 0] (.fix (#[.int .i64 yk,.int .i64 yn,.string ⟨ys.toArray⟩,.slice B3 yl.length m3])),.none,.none].getD jK .none) [] (by kernel_rfl) (by kernel_rfl) (by kernel_rfl) rfl M (fun _ h=>by cases h) (fun _ h=>by cases h) ?_ ?_ ?_
    case refine_1=>
     intro s;simp only[fr,Act.put,List.append_eq,List.cons_append,List.nil_append,List.setIfInBounds_toArray,List.set_cons_zero,List.set_cons_succ,Nat.reduceAdd];rfl
    case refine_2=>
     refine SC 0 1 rfl ?_ (SC 1 2 rfl ?_ (SC 2 3 rfl ?_ (SC 3 4 rfl ?_ (SC 4 5 rfl ?_ (SC 5 6 rfl ?_ (SC 6 7 rfl ?_ (SC 7 8 rfl ?_ (SC 8 9 rfl ?_ (SC 9 10 rfl ?_ (SC 10 11 rfl ?_ (SC 11 12 rfl ?_ Steps.nil)))))))))));all_goals (intro L s w9 hN hU hi hS K hK;dsimp only at hK⊢;simp only[Act.put,List.setIfInBounds_toArray,List.set_cons_zero,List.set_cons_succ]at hK)
     ·go_simp;exact hK.out _ _ (hS.val rfl rfl (Below.refl _ _) rfl)
     ·go_simp;exact hK.out _ _ (hS.val rfl rfl (Below.refl _ _) rfl)
     ·have e0:=hS.fx 0 rfl rfl (hN.out 0 rfl);simp only[e0]at hK⊢;have e1:=hS.fx 1 rfl rfl (hN.out 1 rfl);simp only[e1]at hK⊢;go_simp;exact hK.out _ _ (hS.val rfl rfl (Below.refl _ _) rfl)
     ·have e2:=hS.fx 2 rfl rfl (hN.out 2 rfl);simp only[e2]at hK⊢;have u0:=(hS.mem.bel.cell (p:=⟨b,o+j*4,none⟩) hb1).trans c1;have u1:=(hS.mem.bel.cell (p:=⟨b,o+j*4+1,none⟩) hb1).trans c2;have u2:=(hS.mem.bel.cell (p:=⟨b,o+j*4+2,none⟩) hb1).trans c3;have u3:=(hS.mem.bel.cell (p:=⟨b,o+j*4+3,none⟩) hb1).trans c4;go_simp;exact hK.out _ _ (hS.val rfl rfl (Below.refl _ _) rfl)
     ·go_simp;exact hK.out _ _ (hS.val rfl rfl (Below.refl _ _) rfl)
     ·go_simp;exact hK.out _ _ (hS.val rfl rfl (Below.refl _ _) rfl)
     ·have e4:=hS.fx 4 rfl rfl (hN.out 4 rfl);simp only[e4]at hK⊢;have e5:=hS.fx 5 rfl rfl (hN.out 5 rfl);simp only[e5]at hK⊢;go_simp;exact hK.out _ _ (hS.val rfl rfl (Below.refl _ _) rfl)
     ·have e6:=hS.fx 6 rfl rfl (hN.out 6 rfl);simp only[e6]at hK⊢;have u0:=(hS.mem.bel.cell (p:=⟨b',o'+j*4,none⟩) hb2).trans e1;have u1:=(hS.mem.bel.cell (p:=⟨b',o'+j*4+1,none⟩) hb2).trans e2;have u2:=(hS.mem.bel.cell (p:=⟨b',o'+j*4+2,none⟩) hb2).trans e3;have u3:=(hS.mem.bel.cell (p:=⟨b',o'+j*4+3,none⟩) hb2).trans e4;go_simp;exact hK.out _ _ (hS.val rfl rfl (Below.refl _ _) rfl)
     ·go_simp;exact hK.out _ _ (hS.new rfl rfl hi.out (fun _=>hU.out 10 _ rfl rfl) rfl)
     ·go_simp;exact hK.out _ _ (hS.new rfl rfl hi.out (fun _=>hU.out 11 _ rfl rfl) rfl)
     ·have e3:=hS.fx 3 rfl rfl (hN.out 3 rfl);simp only[e3]at hK⊢;obtain ⟨g9,cs9,e9,l9,b9,n9,z9,_⟩:=hS.cell_at 8 rfl (by decide) (hN.out 8 rfl);obtain rfl:=z9 hi.out;simp only[e9]at hK⊢;refine ite_of rfl ?_;refine wp_store_row _ _ _ rfl g9 _ rfl rfl _ _ b9 info_rexz rfl (by rw[←Array.all_toList];rfl) ?_;simp only[Act.put];exact hK.out undef _ (hS.fill (u:=undef) (c:= .fix (#[.int .i64 xk,.int .i64 xn,.string ⟨xs.toArray⟩,.slice A3 xl.length n3])) rfl rfl (by decide) rfl (hN.out 8 rfl) hi.out e9 (setRow_grown _ _ _) (b9.row _) rfl rfl)
     ·have e7:=hS.fx 7 rfl rfl (hN.out 7 rfl);simp only[e7]at hK⊢;obtain ⟨g9,cs9,e9,l9,b9,n9,z9,_⟩:=hS.cell_at 9 rfl (by decide) (hN.out 9 rfl);obtain rfl:=z9 hi.out;simp only[e9]at hK⊢;refine ite_of rfl ?_;refine wp_store_row _ _ _ rfl g9 _ rfl rfl _ _ b9 info_rexz rfl (by rw[←Array.all_toList];rfl) ?_;simp only[Act.put];exact hK.out undef _ (hS.fill (u:=undef) (c:= .fix (#[.int .i64 yk,.int .i64 yn,.string ⟨ys.toArray⟩,.slice B3 yl.length m3])) rfl rfl (by decide) rfl (hN.out 9 rfl) hi.out e9 (setRow_grown _ _ _) (b9.row _) rfl rfl)
    intro L s w9 hall hS;obtain ⟨g8,cs8,e8,l8,b8,n8,_,z8⟩:=hS.cell_at 8 rfl (by decide) (hall 8 (by decide));obtain rfl:=z8 (hall 10 (by decide));rw[e8];obtain ⟨g9,cs9,e9,l9,b9,n9,_,z9⟩:=hS.cell_at 9 rfl (by decide) (hall 9 (by decide));obtain rfl:=z9 (hall 11 (by decide));rw[e9];have hbl3:=hS.mem.bel;have hbW:Below w.heap.size w w9:=below_trans hbl hbl3;have hx3:=Dt.below _ hx hbl3 (Nat.le_refl _);have hy3:=Dt.below _ hy hbl3 (Nat.le_refl _);have kx:=b8;have ky:=b9;generalize w9=W at*;generalize g8=gx at*;generalize g9=gy at*;clear c1 c2 c3 c4 e1 e2 e3 e4 hb1 hb2 hbl3 hx hy hbl hS M hall b8 b9;obtain ⟨f1,f2,f3,f4⟩:=kx.four;obtain ⟨i1,i2,i3,i4⟩:=ky.four;cases h1:(xk !=yk) with
    |true=>
     go_wp2_with fail;go_ret;exact ⟨retb (by rw[HT.out];simp[exB,h1]),hbW⟩
    |false=>
     cases h2:(xn !=yn) with
     |true=>
      go_wp2_with fail;go_ret;exact ⟨retb (by rw[HT.out];simp[exB,h2]),hbW⟩
     |false=>
      cases h3:(xs==ys) with
      |false=>
       go_wp2_with fail;go_ret;exact ⟨retb (by rw[HT.out];simp[exB,bne,h3]),hbW⟩
      |true=>
       by_cases h4:xl.length=yl.length
       ·have d4:((xl.length:Int) !=(yl.length:Int))=false:=by rw[h4];simp
        have hxB:exB ⟨xk,xn,xs,xl⟩ ⟨yk,yn,ys,yl⟩=ex0sB xl yl:=by simp[exB,bne,h3,h4]at h1 h2⊢;simp[h1,h2]
        have HXB:=Lib.hid hxB;have HL4:=Lib.hid h4;clear hxB h4;go_wp2_with fail;clear h1 h2 h3 d4 f1 f2 f3 f4 i1 i2 i3 i4;go_loopg [8] xl.length (fun k a w6=>∃i,k=xl.length-i∧i≤xl.length∧a= .int .i64 (i:Nat)∧Hid (ex0sB xl yl=ex0sB (xl.drop i) (yl.drop i))∧Below W.heap.size W w6)
        case atStart=>exact ⟨0,rfl,Nat.zero_le _,rfl,rfl,Below.refl _ _⟩
        case round=>
         obtain ⟨i,hk2,hi,rfl,hT2,hb6⟩:=hrel;obtain ⟨f1,f2,f3,f4⟩:=(kx.below hb6 (Nat.le_refl _)).four;obtain ⟨i1,i2,i3,i4⟩:=(ky.below hb6 (Nat.le_refl _)).four;have lx:=(kx.below hb6 (Nat.le_refl _)).lt;have ly:=(ky.below hb6 (Nat.le_refl _)).lt;by_cases hlt3:i<xl.length
         ·have hlt4:i<yl.length:=by have:=HL4.out;omega
          have d2:decide ((i:Int)<(xl.length:Int))=true:=decide_eq_true (by omega);obtain ⟨p,po,hA3,hp1,hcp⟩:=row_e0 (Dt.below _ hx3 hb6 (Nat.le_refl _)) (lt_ne hlt3);obtain ⟨q,qo,hB3,hq1,hcq⟩:=row_e0 (Dt.below _ hy3 hb6 (Nat.le_refl _)) (lt_ne hlt4);obtain ⟨p1,p2,p3,A4,n4,p4⟩:=hcp i hlt3;obtain ⟨q1,q2,q3,B4,m4,q4⟩:=hcq i hlt4;have ht2:=hT2.out.trans (ex0sB_drop hlt3 hlt4);clear hcp hcq hT2;generalize xl[i]=x0 at*;generalize yl[i]=y0 at*;obtain ⟨pk,pn,ps,pm⟩:=x0;obtain ⟨qk,qn,qs,qm⟩:=y0;dsimp only at p1 p2 p3 p4 q1 q2 q3 q4;have HT2:=Lib.hid ht2;clear ht2;subst hA3 hB3;go_upto_region 12 with fail;have M:Mem wr wr [(gy,50,#[.int .i64 yk,.int .i64 yn,.string ⟨ys.toArray⟩,.slice (some ⟨q,qo,none⟩) yl.length m3]),(gx,50,#[.int .i64 xk,.int .i64 xn,.string ⟨xs.toArray⟩,.slice (some ⟨p,po,none⟩) xl.length n3])] []:=((Mem.start wr).addK (kx.below hb6 (Nat.le_refl _))).addK (ky.below hb6 (Nat.le_refl _));refine region_st (n:=14) (frame:= ?frame2) (fun jK=>[.val (.fix (.pointer (some ⟨gx,3,none⟩))),.val (.fix (.slice (some ⟨p,po,none⟩) xl.length n3)),.val (.fix (.int .i64 i)),.val (.fix (.pointer (some ⟨p,po+i*4,none⟩))),.val (.fix (.agg #[.int .i64 pk,.int .i64 pn,.string ⟨ps.toArray⟩,.slice A4 pm n4])),.val (.fix (.pointer (some ⟨gy,3,none⟩))),.val (.fix (.slice (some ⟨q,qo,none⟩) yl.length m3)),.val (.fix (.int .i64 i)),.val (.fix (.pointer (some ⟨q,qo+i*4,none⟩))),.val (.fix (.agg #[.int .i64 qk,.int .i64 qn,.string ⟨qs.toArray⟩,.slice B4 qm m4])),.cell 12 50 #[.int .i64 0,.int .i64 0,.string ⟨#[]⟩,.slice none 0 0] (.fix (#[.int .i64 pk,.int .i64 pn,.string ⟨ps.toArray⟩,.slice A4 pm n4])),.cell 13 50 #[.int .i64 0,.int .i64 0,.string ⟨#[]⟩,.slice none 0 0] (.fix (#[.int .i64 qk,.int .i64 qn,.string ⟨qs.toArray⟩,.slice B4 qm m4])),.none,.none].getD jK .none) [] (by kernel_rfl) (by kernel_rfl) (by kernel_rfl) rfl M (fun _ h=>by cases h) (fun _ h=>by cases h) ?_ ?_ ?_
          case refine_1=>
           intro s;simp only[fr,Act.put,List.append_eq,List.cons_append,List.nil_append,List.setIfInBounds_toArray,List.set_cons_zero,List.set_cons_succ,Nat.reduceAdd];rfl
          case refine_2=>
           refine SC 0 1 rfl ?_ (SC 1 2 rfl ?_ (SC 2 3 rfl ?_ (SC 3 4 rfl ?_ (SC 4 5 rfl ?_ (SC 5 6 rfl ?_ (SC 6 7 rfl ?_ (SC 7 8 rfl ?_ (SC 8 9 rfl ?_ (SC 9 10 rfl ?_ (SC 10 11 rfl ?_ (SC 11 12 rfl ?_ (SC 12 13 rfl ?_ (SC 13 14 rfl ?_ Steps.nil)))))))))))));all_goals (intro L s w9 hN hU hi hS K hK;dsimp only at hK⊢;simp only[Act.put,List.setIfInBounds_toArray,List.set_cons_zero,List.set_cons_succ]at hK)
           ·go_simp;exact hK.out _ _ (hS.val rfl rfl (Below.refl _ _) rfl)
           ·have e0:=hS.fx 0 rfl rfl (hN.out 0 rfl);simp only[e0]at hK⊢;obtain ⟨u1,u2,u3,u4⟩:=(hS.mem.k (i:=1) rfl).four;go_simp;exact hK.out _ _ (hS.val rfl rfl (Below.refl _ _) rfl)
           ·go_simp;exact hK.out _ _ (hS.val rfl rfl (Below.refl _ _) rfl)
           ·have e1:=hS.fx 1 rfl rfl (hN.out 1 rfl);simp only[e1]at hK⊢;have e2:=hS.fx 2 rfl rfl (hN.out 2 rfl);simp only[e2]at hK⊢;go_simp;exact hK.out _ _ (hS.val rfl rfl (Below.refl _ _) rfl)
           ·have e3:=hS.fx 3 rfl rfl (hN.out 3 rfl);simp only[e3]at hK⊢;have u0:=(hS.mem.bel.cell (p:=⟨p,po+i*4,none⟩) hp1).trans p1;have u1:=(hS.mem.bel.cell (p:=⟨p,po+i*4+1,none⟩) hp1).trans p2;have u2:=(hS.mem.bel.cell (p:=⟨p,po+i*4+2,none⟩) hp1).trans p3;have u3:=(hS.mem.bel.cell (p:=⟨p,po+i*4+3,none⟩) hp1).trans p4;go_simp;exact hK.out _ _ (hS.val rfl rfl (Below.refl _ _) rfl)
           ·go_simp;exact hK.out _ _ (hS.val rfl rfl (Below.refl _ _) rfl)
           ·have e5:=hS.fx 5 rfl rfl (hN.out 5 rfl);simp only[e5]at hK⊢;obtain ⟨u1,u2,u3,u4⟩:=(hS.mem.k (i:=0) rfl).four;go_simp;exact hK.out _ _ (hS.val rfl rfl (Below.refl _ _) rfl)
           ·go_simp;exact hK.out _ _ (hS.val rfl rfl (Below.refl _ _) rfl)
           ·have e6:=hS.fx 6 rfl rfl (hN.out 6 rfl);simp only[e6]at hK⊢;have e7:=hS.fx 7 rfl rfl (hN.out 7 rfl);simp only[e7]at hK⊢;go_simp;exact hK.out _ _ (hS.val rfl rfl (Below.refl _ _) rfl)
           ·have e8:=hS.fx 8 rfl rfl (hN.out 8 rfl);simp only[e8]at hK⊢;have u0:=(hS.mem.bel.cell (p:=⟨q,qo+i*4,none⟩) hq1).trans q1;have u1:=(hS.mem.bel.cell (p:=⟨q,qo+i*4+1,none⟩) hq1).trans q2;have u2:=(hS.mem.bel.cell (p:=⟨q,qo+i*4+2,none⟩) hq1).trans q3;have u3:=(hS.mem.bel.cell (p:=⟨q,qo+i*4+3,none⟩) hq1).trans q4;go_simp;exact hK.out _ _ (hS.val rfl rfl (Below.refl _ _) rfl)
           ·go_simp;exact hK.out _ _ (hS.new rfl rfl hi.out (fun _=>hU.out 12 _ rfl rfl) rfl)
           ·go_simp;exact hK.out _ _ (hS.new rfl rfl hi.out (fun _=>hU.out 13 _ rfl rfl) rfl)
           ·have e4:=hS.fx 4 rfl rfl (hN.out 4 rfl);simp only[e4]at hK⊢;obtain ⟨g9,cs9,e9,l9,b9,n9,z9,_⟩:=hS.cell_at 10 rfl (by decide) (hN.out 10 rfl);obtain rfl:=z9 hi.out;simp only[e9]at hK⊢;refine ite_of rfl ?_;refine wp_store_row _ _ _ rfl g9 _ rfl rfl _ _ b9 info_rexz rfl (by rw[←Array.all_toList];rfl) ?_;simp only[Act.put];exact hK.out undef _ (hS.fill (u:=undef) (c:= .fix (#[.int .i64 pk,.int .i64 pn,.string ⟨ps.toArray⟩,.slice A4 pm n4])) rfl rfl (by decide) rfl (hN.out 10 rfl) hi.out e9 (setRow_grown _ _ _) (b9.row _) rfl rfl)
           ·have e9:=hS.fx 9 rfl rfl (hN.out 9 rfl);simp only[e9]at hK⊢;obtain ⟨g9,cs9,e9,l9,b9,n9,z9,_⟩:=hS.cell_at 11 rfl (by decide) (hN.out 11 rfl);obtain rfl:=z9 hi.out;simp only[e9]at hK⊢;refine ite_of rfl ?_;refine wp_store_row _ _ _ rfl g9 _ rfl rfl _ _ b9 info_rexz rfl (by rw[←Array.all_toList];rfl) ?_;simp only[Act.put];exact hK.out undef _ (hS.fill (u:=undef) (c:= .fix (#[.int .i64 qk,.int .i64 qn,.string ⟨qs.toArray⟩,.slice B4 qm m4])) rfl rfl (by decide) rfl (hN.out 11 rfl) hi.out e9 (setRow_grown _ _ _) (b9.row _) rfl rfl)
          intro L s w9 hall hS;obtain ⟨g10,cs10,e10,l10,b10,n10,_,z10⟩:=hS.cell_at 10 rfl (by decide) (hall 10 (by decide));obtain rfl:=z10 (hall 12 (by decide));rw[e10];obtain ⟨g11,cs11,e11,l11,b11,n11,_,z11⟩:=hS.cell_at 11 rfl (by decide) (hall 11 (by decide));obtain rfl:=z11 (hall 13 (by decide));rw[e11];have hb7:=below_trans hb6 hS.mem.bel;have hbV:=below_trans hbW hb7;clear p1 p2 p3 p4 q1 q2 q3 q4 hp1 hq1 f1 f2 f3 f4 i1 i2 i3 i4 hb6 hS M hall;obtain ⟨f1,f2,f3,f4⟩:=b10.four;obtain ⟨i1,i2,i3,i4⟩:=b11.four;cases h1:(pk !=qk) with
          |true=>
           go_wp2_with fail;go_ret;exact ⟨retb (by rw[HT.out,HXB.out,HT2.out];simp[ex0B,h1]),hbV⟩
          |false=>
           cases h2:(pn !=qn) with
           |true=>
            go_wp2_with fail;go_ret;exact ⟨retb (by rw[HT.out,HXB.out,HT2.out];simp[ex0B,h2]),hbV⟩
           |false=>
            cases h3:(ps==qs) with
            |false=>
             go_wp2_with fail;go_ret;exact ⟨retb (by rw[HT.out,HXB.out,HT2.out];simp[ex0B,bne,h3]),hbV⟩
            |true=>
             by_cases h4:0<pm
             ·have d4:decide ((0:Int)<(pm:Int))=true:=decide_eq_true (by omega);go_wp2_with fail;go_ret;exact ⟨retb (by rw[HT.out,HXB.out,HT2.out];simp[ex0B,h4]),hbV⟩
             ·have d4:decide ((0:Int)<(pm:Int))=false:=decide_eq_false (by omega);by_cases h5:0<qm
              ·have d5:decide ((0:Int)<(qm:Int))=true:=decide_eq_true (by omega);go_wp2_with fail;go_ret;exact ⟨retb (by rw[HT.out,HXB.out,HT2.out];simp[ex0B,h5]),hbV⟩
              ·have d5:decide ((0:Int)<(qm:Int))=false:=decide_eq_false (by omega);have hxp:ex0B ⟨pk,pn,ps,pm⟩ ⟨qk,qn,qs,qm⟩=true:=by simp[ex0B,bne,h3,h4,h5]at h1 h2⊢;omega
               have HT3:Hid (ex0sB xl yl=ex0sB (xl.drop (i+1)) (yl.drop (i+1))):=by
                show _=_;rw[HT2.out,hxp,Bool.true_and]
               clear hxp;go_wp2_with fail;go_roundg (xl.length-(i+1))
               case measure=>omega
               case rel=>exact ⟨i+1,rfl,by omega,by simp,HT3,hb7⟩
         ·have d2:decide ((i:Int)<(xl.length:Int))=false:=decide_eq_false (by omega);have e1:=hT2.out.trans (ex0sB_end (by omega) (by have:=HL4.out;omega));have HT3:Hid (exsB la lb=exsB (la.drop (j+1)) (lb.drop (j+1))):=by
           show _=_;rw[HT.out,HXB.out,e1,Bool.true_and]
          have hbZ:=below_trans hbW hb6;clear e1 hT2;go_wp2_with fail;go_roundg (la.length-(j+1))
          case measure=>omega
          case rel=>exact ⟨j+1,rfl,by omega,by simp,HT3,hbZ⟩
       ·have d4:((xl.length:Int) !=(yl.length:Int))=true:=ne_bool (by omega);go_wp2_with fail;go_ret;exact ⟨retb (by rw[HT.out];simp[exB,h4]),hbW⟩
   ·have d1:decide ((j:Int)<(la.length:Int))=false:=decide_eq_false (by omega);have e1:=hT.out.trans (exsB_end (by omega) (by have:=HL.out;omega));have E1:=Lib.hid e1;clear e1 hT;go_wp2_with fail;go_ret;exact ⟨retb E1.out,hbl⟩
 ·have d0:((la.length:Int) !=(lb.length:Int))=true:=ne_bool (by omega);have E1:=Lib.hid (exsB_len hl);clear hl;go_enter Tryz.func26,Tryz.ntmps26;go_wp2_with fail;go_ret;exact ⟨retb E1.out,Below.refl _ _⟩
end Go.Proofs.YtpfhgkielakmoaaGreatDoor
set_option maxHeartbeats 8000000
set_option maxRecDepth 100000
set_option linter.unusedSimpArgs false
set_option linter.unusedVariables false
namespace Go.Proofs.YtpfhgkielakmoaaGreatDoor
open Go.RowKit Num
def domB:List (Int×Int)→List (Int×Int)→Bool
 |[],[]=>true
 |p::a,q::b=>(p.1==q.1&&p.2==q.2)&&domB a b
 |_,_=>false
def itB (x y:It):Bool:= !(x.k !=y.k||(x.name !=y.name||(x.bool !=y.bool||(x.size !=y.size||(x.out !=y.out||(x.ask !=y.ask||(x.dom.length !=y.dom.length)))))))&&(exsB x.vals y.vals&&domB x.dom y.dom)
def itsB:List It→List It→Bool
 |[],[]=>true
 |p::a,q::b=>itB p q&&itsB a b
 |_,_=>false
theorem itsB_len:∀{a b:List It},a.length≠b.length→itsB a b=false
 |[],[],h=>absurd rfl h
 |[],_::_,_=>rfl
 |_::_,[],_=>rfl
 |x::a,y::b,h=>by
  show (itB x y&&itsB a b)=false;rw[itsB_len (a:=a) (b:=b) (fun e=>h (by rw[List.length_cons,List.length_cons,e])),Bool.and_false]
theorem itsB_drop {a b:List It} {j:Nat} (h1:j<a.length) (h2:j<b.length):itsB (a.drop j) (b.drop j)=(itB a[j] b[j]&&itsB (a.drop (j+1)) (b.drop (j+1))):=by
 rw[List.drop_eq_getElem_cons h1,List.drop_eq_getElem_cons h2];rfl
theorem domB_drop {a b:List (Int×Int)} {j:Nat} (h1:j<a.length) (h2:j<b.length):domB (a.drop j) (b.drop j)=((a[j].1==b[j].1&&a[j].2==b[j].2)&&domB (a.drop (j+1)) (b.drop (j+1))):=by
 rw[List.drop_eq_getElem_cons h1,List.drop_eq_getElem_cons h2];rfl
theorem itsB_end {a b:List It} {j:Nat} (h1:a.length≤j) (h2:b.length≤j):itsB (a.drop j) (b.drop j)=true:=by
 rw[List.drop_of_length_le h1,List.drop_of_length_le h2];rfl
theorem domB_end {a b:List (Int×Int)} {j:Nat} (h1:a.length≤j) (h2:b.length≤j):domB (a.drop j) (b.drop j)=true:=by
 rw[List.drop_of_length_le h1,List.drop_of_length_le h2];rfl
theorem row_rg {F:Nat→Prop} {w:World} {A:Option Addr} {n c:Nat} {l:List (Int×Int)} (h:layR.row.P F w (.slice A n c) l) (hn:l≠[]):∃b o,A=some ⟨b,o,none⟩∧b<w.heap.size∧∀j (hj:j<l.length),w.cell? ⟨b,o+j*2,none⟩=some (.int .i64 l[j].1)∧w.cell? ⟨b,o+j*2+1,none⟩=some (.int .i64 l[j].2):=by
 obtain ⟨A',c',h1,h2,h3,h4⟩:=h;obtain ⟨b,o,h5,h6,h7,h8⟩:=h4 hn;injection h1 with e1 _ _;subst e1;refine ⟨b,o,h5,h7,fun j hj=> ?_⟩;obtain ⟨u0,k0,p0⟩:=h8 j hj 0 (by show 0<2;omega);obtain ⟨u1,k1,p1⟩:=h8 j hj 1 (by show 1<2;omega);have p0':u0= .int .i64 l[j].1:=p0;have p1':u1= .int .i64 l[j].2:=p1;subst p0' p1';exact ⟨k0,k1⟩
theorem rsameI_any {F G:Nat→Prop} (A B:Option Addr) (c d:Nat) (la lb:List It) (w:World) (ha:(layI 28 50).row.P F w (.slice A la.length c) la) (hb:(layI 28 50).row.P G w (.slice B lb.length d) lb) (hn:la.length≤10000) (hm:∀x∈la,x.dom.length≤10000∧x.vals.length≤10000∧∀y∈x.vals,y.l.length≤10000):Calls Tryz.prog 13 #[.slice A la.length c,.slice B lb.length d] w fun e w'=>e= .returned (.bool (itsB la lb))∧Below w.heap.size w w':=by
 have HM:=Lib.hid hm;clear hm;by_cases hl:la.length=lb.length
 ·have d0:((la.length:Int) !=(lb.length:Int))=false:=by rw[hl];simp
  have HL:=Lib.hid hl;clear hl;go_enter Tryz.func13,Tryz.ntmps13;go_wp2_with fail;go_loopg [5] la.length (fun k a wr=>∃j,k=la.length-j∧j≤la.length∧a= .int .i64 (j:Nat)∧Hid (itsB la lb=itsB (la.drop j) (lb.drop j))∧Below w.heap.size w wr)
  case atStart=>exact ⟨0,rfl,Nat.zero_le _,rfl,rfl,Below.refl _ _⟩
  case round=>
   obtain ⟨j,hk,hj,rfl,hT,hbl⟩:=hrel;by_cases hlt:j<la.length
   ·have hlt2:j<lb.length:=by have:=HL.out;omega
    have d1:decide ((j:Int)<(la.length:Int))=true:=decide_eq_true (by omega);obtain ⟨b,o,hA,hb1,hc⟩:=row_it (Dt.below _ ha hbl (Nat.le_refl _)) (lt_ne hlt);obtain ⟨b',o',hB,hb2,hc'⟩:=row_it (Dt.below _ hb hbl (Nat.le_refl _)) (lt_ne hlt2);obtain ⟨c0,c1,c2,c4,c5,c7,⟨A3,n3,c3,hxd⟩,A6,n6,c6,hxv⟩:=hc j hlt;obtain ⟨k0,k1,k2,k4,k5,k7,⟨B3,m3,k3,hyd⟩,B6,m6,k6,hyv⟩:=hc' j hlt2;have ht:=hT.out.trans (itsB_drop hlt hlt2);have hm1:=HM.out la[j] (List.getElem_mem hlt);clear hc hc' hT;subst hA hB;generalize la[j]=x at*;generalize lb[j]=y at*;obtain ⟨xk,xn,xb,xd,xz,xo,xv,xa⟩:=x;obtain ⟨yk,yn,yb,yd,yz,yo,yv,ya⟩:=y;dsimp only at c0 c1 c2 c3 c4 c5 c6 c7 k0 k1 k2 k3 k4 k5 k6 k7 hxd hxv hyd hyv hm1;have HT:=Lib.hid ht;clear ht;go_upto_region 6 with fail;have M:Mem wr wr [] []:=Mem.start wr;refine region_st (n:=12) (frame:= ?frame1) (fun jK=>[.val (.fix (.slice (some ⟨b,o,none⟩) la.length c)),.val (.fix (.int .i64 j)),.val (.fix (.pointer (some ⟨b,o+j*8,none⟩))),.val (.fix (.agg #[.int .i64 xk,.string ⟨xn.toArray⟩,.bool xb,.slice A3 xd.length n3,.int .i64 xz,.bool xo,.slice A6 xv.length n6,.int .i64 xa])),.val (.fix (.slice (some ⟨b',o',none⟩) lb.length d)),.val (.fix (.int .i64 j)),.val (.fix (.pointer (some ⟨b',o'+j*8,none⟩))),.val (.fix (.agg #[.int .i64 yk,.string ⟨yn.toArray⟩,.bool yb,.slice B3 yd.length m3,.int .i64 yz,.bool yo,.slice B6 yv.length m6,.int .i64 ya])),.cell 10 28 #[.int .i64 0,.string ⟨#[]⟩,.bool false,.slice none 0 0,.int .i64 0,.bool false,.slice none 0 0,.int .i64 0] (.fix (#[.int .i64 xk,.string ⟨xn.toArray⟩,.bool xb,.slice A3 xd.length n3,.int .i64 xz,.bool xo,.slice A6 xv.length n6,.int .i64 xa])),.cell 11 28 #[.int .i64 0,.string ⟨#[]⟩,.bool false,.slice none 0 0,.int .i64 0,.bool false,.slice none 0 0,.int .i64 0] (.fix (#[.int .i64 yk,.string ⟨yn.toArray⟩,.bool yb,.slice B3 yd.length m3,.int .i64 yz,.bool yo,.slice B6 yv.length m6,.int .i64 ya])),.none,.none].getD jK .none) [] (by kernel_rfl) (by kernel_rfl) (by kernel_rfl) rfl M (fun _ h=>by cases h) (fun _ h=>by cases h) ?_ ?_ ?_
    case refine_1=>
     intro s;simp only[fr,Act.put,List.append_eq,List.cons_append,List.nil_append,List.setIfInBounds_toArray,List.set_cons_zero,List.set_cons_succ,Nat.reduceAdd];rfl
    case refine_2=>
     refine SC 0 1 rfl ?_ (SC 1 2 rfl ?_ (SC 2 3 rfl ?_ (SC 3 4 rfl ?_ (SC 4 5 rfl ?_ (SC 5 6 rfl ?_ (SC 6 7 rfl ?_ (SC 7 8 rfl ?_ (SC 8 9 rfl ?_ (SC 9 10 rfl ?_ (SC 10 11 rfl ?_ (SC 11 12 rfl ?_ Steps.nil)))))))))));all_goals (intro L s w9 hN hU hi hS K hK;dsimp only at hK⊢;simp only[Act.put,List.setIfInBounds_toArray,List.set_cons_zero,List.set_cons_succ]at hK)
     ·go_simp;exact hK.out _ _ (hS.val rfl rfl (Below.refl _ _) rfl)
     ·go_simp;exact hK.out _ _ (hS.val rfl rfl (Below.refl _ _) rfl)
     ·have e0:=hS.fx 0 rfl rfl (hN.out 0 rfl);simp only[e0]at hK⊢;have e1:=hS.fx 1 rfl rfl (hN.out 1 rfl);simp only[e1]at hK⊢;go_simp;exact hK.out _ _ (hS.val rfl rfl (Below.refl _ _) rfl)
     ·have e2:=hS.fx 2 rfl rfl (hN.out 2 rfl);simp only[e2]at hK⊢;have u0:=(hS.mem.bel.cell (p:=⟨b,o+j*8,none⟩) hb1).trans c0;have u1:=(hS.mem.bel.cell (p:=⟨b,o+j*8+1,none⟩) hb1).trans c1;have u2:=(hS.mem.bel.cell (p:=⟨b,o+j*8+2,none⟩) hb1).trans c2;have u3:=(hS.mem.bel.cell (p:=⟨b,o+j*8+3,none⟩) hb1).trans c3;have u4:=(hS.mem.bel.cell (p:=⟨b,o+j*8+4,none⟩) hb1).trans c4;have u5:=(hS.mem.bel.cell (p:=⟨b,o+j*8+5,none⟩) hb1).trans c5;have u6:=(hS.mem.bel.cell (p:=⟨b,o+j*8+6,none⟩) hb1).trans c6;have u7:=(hS.mem.bel.cell (p:=⟨b,o+j*8+7,none⟩) hb1).trans c7;go_simp;exact hK.out _ _ (hS.val rfl rfl (Below.refl _ _) rfl)
     ·go_simp;exact hK.out _ _ (hS.val rfl rfl (Below.refl _ _) rfl)
     ·go_simp;exact hK.out _ _ (hS.val rfl rfl (Below.refl _ _) rfl)
     ·have e4:=hS.fx 4 rfl rfl (hN.out 4 rfl);simp only[e4]at hK⊢;have e5:=hS.fx 5 rfl rfl (hN.out 5 rfl);simp only[e5]at hK⊢;go_simp;exact hK.out _ _ (hS.val rfl rfl (Below.refl _ _) rfl)
     ·have e6:=hS.fx 6 rfl rfl (hN.out 6 rfl);simp only[e6]at hK⊢;have u0:=(hS.mem.bel.cell (p:=⟨b',o'+j*8,none⟩) hb2).trans k0;have u1:=(hS.mem.bel.cell (p:=⟨b',o'+j*8+1,none⟩) hb2).trans k1;have u2:=(hS.mem.bel.cell (p:=⟨b',o'+j*8+2,none⟩) hb2).trans k2;have u3:=(hS.mem.bel.cell (p:=⟨b',o'+j*8+3,none⟩) hb2).trans k3;have u4:=(hS.mem.bel.cell (p:=⟨b',o'+j*8+4,none⟩) hb2).trans k4;have u5:=(hS.mem.bel.cell (p:=⟨b',o'+j*8+5,none⟩) hb2).trans k5;have u6:=(hS.mem.bel.cell (p:=⟨b',o'+j*8+6,none⟩) hb2).trans k6;have u7:=(hS.mem.bel.cell (p:=⟨b',o'+j*8+7,none⟩) hb2).trans k7;go_simp;exact hK.out _ _ (hS.val rfl rfl (Below.refl _ _) rfl)
     ·go_simp;exact hK.out _ _ (hS.new rfl rfl hi.out (fun _=>hU.out 10 _ rfl rfl) rfl)
     ·go_simp;exact hK.out _ _ (hS.new rfl rfl hi.out (fun _=>hU.out 11 _ rfl rfl) rfl)
     ·have e3:=hS.fx 3 rfl rfl (hN.out 3 rfl);simp only[e3]at hK⊢;obtain ⟨g9,cs9,e9,l9,b9,n9,z9,_⟩:=hS.cell_at 8 rfl (by decide) (hN.out 8 rfl);obtain rfl:=z9 hi.out;simp only[e9]at hK⊢;refine ite_of rfl ?_;refine wp_store_row _ _ _ rfl g9 _ rfl rfl _ _ b9 info_ritz rfl (by rw[←Array.all_toList];rfl) ?_;simp only[Act.put];exact hK.out undef _ (hS.fill (u:=undef) (c:= .fix (#[.int .i64 xk,.string ⟨xn.toArray⟩,.bool xb,.slice A3 xd.length n3,.int .i64 xz,.bool xo,.slice A6 xv.length n6,.int .i64 xa])) rfl rfl (by decide) rfl (hN.out 8 rfl) hi.out e9 (setRow_grown _ _ _) (b9.row _) rfl rfl)
     ·have e7:=hS.fx 7 rfl rfl (hN.out 7 rfl);simp only[e7]at hK⊢;obtain ⟨g9,cs9,e9,l9,b9,n9,z9,_⟩:=hS.cell_at 9 rfl (by decide) (hN.out 9 rfl);obtain rfl:=z9 hi.out;simp only[e9]at hK⊢;refine ite_of rfl ?_;refine wp_store_row _ _ _ rfl g9 _ rfl rfl _ _ b9 info_ritz rfl (by rw[←Array.all_toList];rfl) ?_;simp only[Act.put];exact hK.out undef _ (hS.fill (u:=undef) (c:= .fix (#[.int .i64 yk,.string ⟨yn.toArray⟩,.bool yb,.slice B3 yd.length m3,.int .i64 yz,.bool yo,.slice B6 yv.length m6,.int .i64 ya])) rfl rfl (by decide) rfl (hN.out 9 rfl) hi.out e9 (setRow_grown _ _ _) (b9.row _) rfl rfl)
    intro L s w9 hall hS;obtain ⟨g8,cs8,e8,l8,b8,n8,_,z8⟩:=hS.cell_at 8 rfl (by decide) (hall 8 (by decide));obtain rfl:=z8 (hall 10 (by decide));rw[e8];obtain ⟨g9,cs9,e9,l9,b9,n9,_,z9⟩:=hS.cell_at 9 rfl (by decide) (hall 9 (by decide));obtain rfl:=z9 (hall 11 (by decide));rw[e9];have hbl3:=hS.mem.bel;have hbW:Below w.heap.size w w9:=below_trans hbl hbl3;have hxd3:=Dt.below _ hxd hbl3 (Nat.le_refl _);have hxv3:=Dt.below _ hxv hbl3 (Nat.le_refl _);have hyd3:=Dt.below _ hyd hbl3 (Nat.le_refl _);have hyv3:=Dt.below _ hyv hbl3 (Nat.le_refl _);have kx:=b8;have ky:=b9;generalize w9=W at*;generalize g8=gx at*;generalize g9=gy at*;clear c0 c1 c2 c3 c4 c5 c6 c7 k0 k1 k2 k3 k4 k5 k6 k7 hb1 hb2 hbl3 hxd hxv hyd hyv hbl hS M hall b8 b9;obtain ⟨f0,f1,f2,f3,f4,f5,f6,f7⟩:=Blk.eight kx;obtain ⟨i0,i1,i2,i3,i4,i5,i6,i7⟩:=Blk.eight ky;cases h1:(xk !=yk) with
    |true=>
     go_wp2_with fail;go_ret;exact ⟨retb (by rw[HT.out];simp[itB,h1]),hbW⟩
    |false=>
     cases h2:(xn==yn) with
     |false=>
      go_wp2_with fail;go_ret;exact ⟨retb (by rw[HT.out];simp[itB,bne,h2]),hbW⟩
     |true=>
      cases h3:(xb==yb) with
      |false=>
       go_wp2_with fail;go_ret;exact ⟨retb (by rw[HT.out];simp[itB,bne,h3]),hbW⟩
      |true=>
       cases h4:(xz !=yz) with
       |true=>
        go_wp2_with fail;go_ret;exact ⟨retb (by rw[HT.out];simp[itB,h4]),hbW⟩
       |false=>
        cases h5:(xo==yo) with
        |false=>
         go_wp2_with fail;go_ret;exact ⟨retb (by rw[HT.out];simp[itB,bne,h5]),hbW⟩
        |true=>
         cases h6:(xa !=ya) with
         |true=>
          go_wp2_with fail;go_ret;exact ⟨retb (by rw[HT.out];simp[itB,h6]),hbW⟩
         |false=>
          by_cases h7:xd.length=yd.length
          ·have d7:((xd.length:Int) !=(yd.length:Int))=false:=by rw[h7];simp
           have hxB:itB ⟨xk,xn,xb,xd,xz,xo,xv,xa⟩ ⟨yk,yn,yb,yd,yz,yo,yv,ya⟩=(exsB xv yv&&domB xd yd):=by
            unfold itB;dsimp only;rw[h1,h4,h6];simp only[bne,h2,h3,h5,h7,beq_self_eq_true,Bool.not_true,Bool.or_self,Bool.not_false,Bool.true_and]
           have HXB:=Lib.hid hxB;have HL7:=Lib.hid h7;clear hxB h7;go_wp2_with fail;refine (rexprs_any A6 B6 n6 m6 xv yv W hxv3 hyv3 hm1.2.1 hm1.2.2).mono ?_;rintro e w8 ⟨rfl,q8⟩;have hbW8:=below_trans hbW q8;have kx8:=kx.below q8 (Nat.le_refl _);have ky8:=ky.below q8 (Nat.le_refl _);have hxd8:=Dt.below _ hxd3 q8 (Nat.le_refl _);have hyd8:=Dt.below _ hyd3 q8 (Nat.le_refl _);clear f0 f1 f2 f3 f4 f5 f6 f7 i0 i1 i2 i3 i4 i5 i6 i7 hxd3 hyd3 hxv3 hyv3 q8 kx ky;cases h8:exsB xv yv with
           |false=>
            have H8:=Lib.hid h8;clear h8;go_wp2_with fail;go_ret;exact ⟨retb (by rw[HT.out,HXB.out,H8.out];rfl),hbW8⟩
           |true=>
            have H8:=Lib.hid h8;clear h8;obtain ⟨f0,f1,f2,f3,f4,f5,f6,f7⟩:=Blk.eight kx8;obtain ⟨i0,i1,i2,i3,i4,i5,i6,i7⟩:=Blk.eight ky8;go_wp2_with fail;clear h1 h2 h3 h4 h5 h6 d7;go_loopg [8] xd.length (fun k a w6=>∃i,k=xd.length-i∧i≤xd.length∧a= .int .i64 (i:Nat)∧Hid (domB xd yd=domB (xd.drop i) (yd.drop i))∧Below w8.heap.size w8 w6)
            case atStart=>exact ⟨0,rfl,Nat.zero_le _,rfl,rfl,Below.refl _ _⟩
            case round=>
             obtain ⟨i,hk2,hi,rfl,hT2,hb6⟩:=hrel;obtain ⟨f0,f1,f2,f3,f4,f5,f6,f7⟩:=Blk.eight (kx8.below hb6 (Nat.le_refl _));obtain ⟨i0,i1,i2,i3,i4,i5,i6,i7⟩:=Blk.eight (ky8.below hb6 (Nat.le_refl _));have hbV:=below_trans hbW8 hb6;by_cases hlt3:i<xd.length
             ·have hlt4:i<yd.length:=by have:=HL7.out;omega
              have d2:decide ((i:Int)<(xd.length:Int))=true:=decide_eq_true (by omega);obtain ⟨p,po,hA3,hp1,hcp⟩:=row_rg (Dt.below _ hxd8 hb6 (Nat.le_refl _)) (lt_ne hlt3);obtain ⟨q,qo,hB3,hq1,hcq⟩:=row_rg (Dt.below _ hyd8 hb6 (Nat.le_refl _)) (lt_ne hlt4);obtain ⟨p1,p2⟩:=hcp i hlt3;obtain ⟨q1,q2⟩:=hcq i hlt4;have ht2:=hT2.out.trans (domB_drop hlt3 hlt4);clear hcp hcq hT2;generalize xd[i]=x0 at*;generalize yd[i]=y0 at*;obtain ⟨pl,ph⟩:=x0;obtain ⟨ql,qh⟩:=y0;dsimp only at p1 p2 q1 q2 ht2;have HT2:=Lib.hid ht2;clear ht2;subst hA3 hB3;by_cases h9:pl=ql
              ·subst h9;by_cases h10:ph=qh
               ·subst h10;have HT3:Hid (domB xd yd=domB (xd.drop (i+1)) (yd.drop (i+1))):=by
                 show _=_;rw[HT2.out,beq_self_eq_true,beq_self_eq_true];rfl
                have hb9:=hb6.trans ((Read.refl _).drew.below _);go_upto_region 12 with fail;go_region;go_wp2_with fail;go_roundg (xd.length-(i+1))
                case measure=>omega
                case rel=>exact ⟨i+1,rfl,by omega,by simp,HT3,hb9⟩
               ·have e10:(ph==qh)=false:=beq_eq_false_iff_ne.2 h10;have HT3:=Lib.hid e10;have hb9:=hbV.trans ((Read.refl _).drew.below _);clear e10;go_upto_region 12 with fail;go_region;go_wp2_with fail;go_ret;exact ⟨retb (by rw[HT.out,HXB.out,H8.out,HT2.out,HT3.out,Bool.and_false,Bool.false_and,Bool.and_false,Bool.false_and]),hb9⟩
              ·have e10:(pl==ql)=false:=beq_eq_false_iff_ne.2 h9;have HT3:=Lib.hid e10;have hb9:=hbV.trans ((Read.refl _).drew.below _);clear e10;go_upto_region 12 with fail;go_region;go_wp2_with fail;go_ret;exact ⟨retb (by rw[HT.out,HXB.out,H8.out,HT2.out,HT3.out,Bool.false_and,Bool.false_and,Bool.and_false,Bool.false_and]),hb9⟩
             ·have d2:decide ((i:Int)<(xd.length:Int))=false:=decide_eq_false (by omega);have e1:=hT2.out.trans (domB_end (by omega) (by have:=HL7.out;omega));have HT3:Hid (itsB la lb=itsB (la.drop (j+1)) (lb.drop (j+1))):=by
               show _=_;rw[HT.out,HXB.out,H8.out,e1,Bool.true_and,Bool.true_and]
              clear e1 hT2;go_wp2_with fail;go_roundg (la.length-(j+1))
              case measure=>omega
              case rel=>exact ⟨j+1,rfl,by omega,by simp,HT3,hbV⟩
          ·have d7:((xd.length:Int) !=(yd.length:Int))=true:=ne_bool (by omega);go_wp2_with fail;go_ret;exact ⟨retb (by rw[HT.out];simp[itB,h7]),hbW⟩
   ·have d1:decide ((j:Int)<(la.length:Int))=false:=decide_eq_false (by omega);have e1:=hT.out.trans (itsB_end (by omega) (by have:=HL.out;omega));have E1:=Lib.hid e1;clear e1 hT;go_wp2_with fail;go_ret;exact ⟨retb E1.out,hbl⟩
 ·have d0:((la.length:Int) !=(lb.length:Int))=true:=ne_bool (by omega);have E1:=Lib.hid (itsB_len hl);clear hl;go_enter Tryz.func13,Tryz.ntmps13;go_wp2_with fail;go_ret;exact ⟨retb E1.out,Below.refl _ _⟩
end Go.Proofs.YtpfhgkielakmoaaGreatDoor

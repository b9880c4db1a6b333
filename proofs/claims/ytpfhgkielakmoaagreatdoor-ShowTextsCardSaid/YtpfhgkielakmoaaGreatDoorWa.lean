import Derived.Test.YtpfhgkielakmoaaGreatDoorPn
set_option maxHeartbeats 8000000
set_option maxRecDepth 100000
set_option linter.unusedSimpArgs false
set_option linter.unusedVariables false
namespace Go.Proofs.YtpfhgkielakmoaaGreatDoor
open Go.RowKit Num
theorem info_pexs:(Tryz.prog.info? 102).map (fun i=>(i.zero,i.size,i.bytes))=some (some (.agg #[.int .i64 0,.int .i64 0,.string ⟨#[]⟩,.slice none 0 0]),4,56):=by kernel_rfl
theorem theirs_exprs {F:Nat→Prop} (A:Option Addr) (c:Nat) (l:List Ex) (w:World) (h:(layE 50).row.P F w (.slice A l.length c) l) (hn:l.length≤10000) (hm:∀x∈l,x.l.length≤10000):Calls Tryz.prog 30 #[.slice A l.length c] w fun e w'=>(∃v,e= .returned v∧(layE 102).own w.heap.size w' v (l.map Ex.flat))∧Below w.heap.size w w':=by
 have HM:=Lib.hid hm;clear hm;go_enter Tryz.func30,Tryz.ntmps30;go_wp2_with fail;go_loopg [3,12] l.length (fun k v a wr=>∃j,k=l.length-j∧j≤l.length∧a= .int .i64 (j:Nat)∧(layE 102).own w.heap.size wr v ((l.take j).map Ex.flat)∧Below w.heap.size w wr)
 case atStart=>exact ⟨0,rfl,Nat.zero_le _,rfl,Lay.own_nil _ _ _,Below.refl _ _⟩
 case round=>
  obtain ⟨j,hk,hj,rfl,ho,hb⟩:=hrel;by_cases hlt:j<l.length
  ·have d1:decide ((j:Int)<(l.length:Int))=true:=decide_eq_true (by omega);have hw:=Dt.below _ h hb (Nat.le_refl _);obtain ⟨b,o,hA,hbl,hc⟩:=row_ex hw (lt_ne hlt);obtain ⟨c1,c2,c3,A3,n3,c4,h3⟩:=hc j hlt;have hs:(l.take (j+1)).map Ex.flat=(l.take j).map Ex.flat++[l[j].flat]:=by rw[take_snoc hlt,List.map_append];rfl
   have HS:=Lib.hid hs;have hm1:=HM.out l[j] (List.getElem_mem hlt);have hlen:((l.take j).map Ex.flat).length≤1000000:=by rw[List.length_map,List.length_take];omega
   have hb2:=below_trans hb (below_alloc1 wr (.cells #[.int .i64 l[j].k,.int .i64 l[j].n,.string ⟨l[j].s.toArray⟩,.slice A3 l[j].l.length n3] 50));have h32:=Dt.below _ h3 (below_alloc1 wr (.cells #[.int .i64 l[j].k,.int .i64 l[j].n,.string ⟨l[j].s.toArray⟩,.slice A3 l[j].l.length n3] 50)) (Nat.le_refl _);have ho2:=Lay.own_below ho (below_alloc1 wr (.cells #[.int .i64 l[j].k,.int .i64 l[j].n,.string ⟨l[j].s.toArray⟩,.slice A3 l[j].l.length n3] 50));have k5:Blk (wr.alloc (.cells #[.int .i64 l[j].k,.int .i64 l[j].n,.string ⟨l[j].s.toArray⟩,.slice A3 l[j].l.length n3] 50)) wr.heap.size 50 #[.int .i64 l[j].k,.int .i64 l[j].n,.string ⟨l[j].s.toArray⟩,.slice A3 l[j].l.length n3]:=Blk.new ..;obtain ⟨f1,f2,f3,f4⟩:=Blk.four (a:= .int .i64 l[j].k) (b:= .int .i64 l[j].n) (c:= .string ⟨l[j].s.toArray⟩) (d:= .slice A3 l[j].l.length n3) k5;clear hs hw hc h3;subst hA;go_wp2_with fail;have hz5:wr.heap.size<(wr.alloc (.cells #[.int .i64 l[j].k,.int .i64 l[j].n,.string ⟨l[j].s.toArray⟩,.slice A3 l[j].l.length n3] 50)).heap.size:=by simp
   generalize wr.alloc (.cells #[.int .i64 l[j].k,.int .i64 l[j].n,.string ⟨l[j].s.toArray⟩,.slice A3 l[j].l.length n3] 50)=w5 at*;go_loopg [6,19] l[j].l.length (fun k v a w6=>∃i,k=l[j].l.length-i∧i≤l[j].l.length∧a= .int .i64 (i:Nat)∧(layE0 102).own w5.heap.size w6 v ((l[j].l.take i).map Ex0.flat)∧Below w5.heap.size w5 w6)
   case atStart=>exact ⟨0,rfl,Nat.zero_le _,rfl,Lay.own_nil _ _ _,Below.refl _ _⟩
   case round=>
    obtain ⟨i,hk2,hi,rfl,ho3,hb3⟩:=hrel;by_cases hlt2:i<l[j].l.length
    ·have d2:decide ((i:Int)<(l[j].l.length:Int))=true:=decide_eq_true (by omega);obtain ⟨b2,o2,hA2,hbl2,hc2⟩:=row_e0 (Dt.below _ h32 hb3 (Nat.le_refl _)) (lt_ne hlt2);obtain ⟨g1,g2,g3,A4,n4,g4⟩:=hc2 i hlt2;have hs2:(l[j].l.take (i+1)).map Ex0.flat=(l[j].l.take i).map Ex0.flat++[l[j].l[i].flat]:=by rw[take_snoc hlt2,List.map_append];rfl
     have HS2:=Lib.hid hs2;have hlen2:((l[j].l.take i).map Ex0.flat).length≤1000000:=by rw[List.length_map,List.length_take];omega
     clear hs2 hc2;generalize l[j].l[i]=y at*;obtain ⟨yk,yn,ys,ym⟩:=y;have hp2:=below_trans (below_alloc1 wr (.cells #[.int .i64 yk,.int .i64 yn,.string ⟨ys.toArray⟩,.slice A4 ym n4] 50)) (below_alloc1 _ (.cells #[.int .i64 yk,.int .i64 yn,.string ⟨ys.toArray⟩,.slice none 0 0] 102));have kb:Blk ((wr.alloc (.cells #[.int .i64 yk,.int .i64 yn,.string ⟨ys.toArray⟩,.slice A4 ym n4] 50)).alloc (.cells #[.int .i64 yk,.int .i64 yn,.string ⟨ys.toArray⟩,.slice none 0 0] 102)) (wr.heap.size+1) 102 #[.int .i64 yk,.int .i64 yn,.string ⟨ys.toArray⟩,.slice none 0 0]:=Blk.at_ (by simp);subst hA2;obtain ⟨A7,n7,hv7⟩:=Lay.own_len ho3;subst hv7;cases ym with
     |zero=>
      have ho4:=Lay.own_below ho3 hp2;have hs4:w5.heap.size≤_:=(hb3.trans (hp2.mono hb3.size)).size;have hb4:=hb3.trans (hp2.mono hb3.size);clear kb hp2;go_wp2_with (at_builtin;refine Lay.wp_app (layE0 102) _ _ ((wr.alloc (.cells #[.int .i64 yk,.int .i64 yn,.string ⟨ys.toArray⟩,.slice A4 0 n4] 50)).alloc (.cells #[.int .i64 yk,.int .i64 yn,.string ⟨ys.toArray⟩,.slice none 0 0] 102)) w5.heap.size _ _ ⟨yk,yn,ys,0⟩ #[.int .i64 yk,.int .i64 yn,.string ⟨ys.toArray⟩,.slice none 0 0] (by first|rfl|simp) Tryz.underlying45 info_pexs rfl (by decide) (by decide) ho4 hs4 hlen2 rfl rfl (e0_new (y:=⟨yk,yn,ys,0⟩) (A:=none) (c:=0)) rfl rfl rfl rfl ?_;intro v7 w7 ho7 hg7 hb7 _);go_roundg (l[j].l.length-(i+1))
      case measure=>omega
      case rel=>exact ⟨i+1,rfl,by omega,by simp,by rw[HS2.out];exact ho7,hb4.trans hb7⟩
     |succ m=>
      have d3:decide ((0:Int)<((m:Int)+1))=true:=decide_eq_true (by omega);have hp3:=below_trans (below_trans (below_alloc1 wr (.cells #[.int .i64 yk,.int .i64 yn,.string ⟨ys.toArray⟩,.slice A4 (m+1) n4] 50)) (below_alloc1 _ (.cells #[.int .i64 yk,.int .i64 yn,.string ⟨ys.toArray⟩,.slice (some ⟨wr.heap.size+1+1,0,none⟩) 1 1] 102))) (below_alloc1 _ (.cells #[.int .i64 0,.int .i64 0,.string ⟨#[]⟩,.slice none 0 0] 102));have ho4:=Lay.own_below ho3 hp3;have hb4:=hb3.trans (hp3.mono hb3.size);have hs4:=hb4.size;clear kb hp2 hp3;go_wp2_with (at_builtin;refine Lay.wp_app (layE0 102) _ _ (((wr.alloc (.cells #[.int .i64 yk,.int .i64 yn,.string ⟨ys.toArray⟩,.slice A4 (m+1) n4] 50)).alloc (.cells #[.int .i64 yk,.int .i64 yn,.string ⟨ys.toArray⟩,.slice (some ⟨wr.heap.size+1+1,0,none⟩) 1 1] 102)).alloc (.cells #[.int .i64 0,.int .i64 0,.string ⟨#[]⟩,.slice none 0 0] 102)) w5.heap.size _ _ ⟨yk,yn,ys,1⟩ #[.int .i64 yk,.int .i64 yn,.string ⟨ys.toArray⟩,.slice (some ⟨wr.heap.size+1+1,0,none⟩) 1 1] (by first|rfl|simp) Tryz.underlying45 info_pexs rfl (by decide) (by decide) ho4 hs4 hlen2 rfl rfl (e0_new (y:=⟨yk,yn,ys,1⟩) (A:=some ⟨wr.heap.size+1+1,0,none⟩) (c:=1)) rfl rfl rfl rfl ?_;intro v7 w7 ho7 hg7 hb7 _);go_roundg (l[j].l.length-(i+1))
      case measure=>omega
      case rel=>exact ⟨i+1,rfl,by omega,by simp,by rw[HS2.out];exact ho7,hb4.trans hb7⟩
    ·have d2:decide ((i:Int)<(l[j].l.length:Int))=false:=decide_eq_false (by omega);have e2:l[j].l.take i=l[j].l:=List.take_of_length_le (by omega);rw[e2]at ho3;obtain ⟨A6,n6,hv6⟩:=Lay.own_len ho3;rw[List.length_map]at hv6;have ho6:=Lay.own_below ho2 (hb3.mono (Nat.le_refl _));obtain ⟨m1,m2,m3,m4⟩:=Blk.four (a:= .int .i64 l[j].k) (b:= .int .i64 l[j].n) (c:= .string ⟨l[j].s.toArray⟩) (d:= .slice A3 l[j].l.length n3) (k5.below hb3 (Nat.le_refl _));have hw5:=hb2.size;have hrow:=(layE0 102).row.mono (F':=inF w.heap.size wr u3) (fun b hb=>⟨Nat.le_trans hw5 hb.1,hb.2,fun e=>by have:=(Lay.own_lt ho2 b e).2;have:=hb.1;omega⟩) (Lay.own_row ho3);subst hv6;have hnew:=ex_new (ty:=102) (x:=l[j].flat) hrow;have HN:=Lib.hid hnew;have hs6:=Nat.le_trans hw5 hb3.size;have hb6:=hb2.trans (hb3.mono hw5);clear e2 hnew hrow;go_wp2_with (at_builtin;refine Lay.wp_app (layE 102) _ _ wr w.heap.size _ _ l[j].flat #[.int .i64 l[j].k,.int .i64 l[j].n,.string ⟨l[j].s.toArray⟩,.slice A6 l[j].l.length n6] (by first|rfl|simp) Tryz.underlying45 info_pexs rfl (by decide) (by decide) ho6 hs6 hlen rfl rfl HN.out rfl rfl rfl rfl ?_;intro v7 w7 ho7 hg7 hb7 _);go_roundg (l.length-(j+1))
     case measure=>omega
     case rel=>exact ⟨j+1,rfl,by omega,by simp,by rw[HS.out];exact ho7,hb6.trans hb7⟩
  ·have d1:decide ((j:Int)<(l.length:Int))=false:=decide_eq_false (by omega);have e1:l.take j=l:=List.take_of_length_le (by omega);rw[e1]at ho;go_wp2;go_ret;exact ⟨⟨_,rfl,ho⟩,hb⟩
theorem info_pitem:(Tryz.prog.info? 47).map (fun i=>(i.zero,i.size,i.bytes))=some (some (.agg #[.int .i64 0,.string ⟨#[]⟩,.bool false,.slice none 0 0,.int .i64 0,.bool false,.slice none 0 0,.int .i64 0]),8,104):=by kernel_rfl
theorem size_pitem:(Tryz.prog.info? 47).map (·.size)=some 8:=by kernel_rfl
structure PhC (w:World) (G:Nat) (ty:TypeId) (Z:Array Value) (R:World→Value→Prop) (news:Value→Array Value) (Lc Ls:Bool) (sc:Value) (w':World):Prop where
 p0:Lc=false→Below w.heap.size w w'
 p1:Lc=true→Ls=false→Below w.heap.size w w'∧R w' sc
 p2:Ls=true→∃w3,Below w.heap.size w w3∧R w3 sc∧w3.grownBy w' (some G)∧Blk w' G ty (news sc)
theorem theirs7_any {F : Nat → Prop} (x : It) (A3 : Option Addr) (n3 : Nat) (A6 : Option Addr) (n6 : Nat) (w : World) (ha : (layE 50).row.P F w (.slice A6 x.vals.length n6) x.vals) (hm : x.vals.length ≤ 10000 ∧ ∀ y ∈ x.vals, y.l.length ≤ 10000) :
    Calls Tryz.prog 21 #[.agg #[.int .i64 x.k, .string ⟨x.name.toArray⟩, .bool x.bool, .slice A3 x.dom.length n3, .int .i64 x.size, .bool x.out, .slice A6 x.vals.length n6, .int .i64 x.ask]] w fun e w' =>
      (∃ S, e = .returned (.agg #[.int .i64 x.k, .string ⟨x.name.toArray⟩, .bool x.bool, .slice A3 x.dom.length n3, .int .i64 x.size, .bool x.out, S, .int .i64 x.ask]) ∧ (∃ A c, S = .slice A x.vals.length c) ∧ (layE 102).row.P (since w.heap.size w') w' S (x.vals.map Ex.flat)) ∧ Below w.heap.size w w' := by
  obtain ⟨xk, xn, xb, xd, xz, xo, xv, xa⟩ := x
  dsimp only at *
  generalize xd.length = dn at *
  have qa := below_trans (below_alloc1 w (.cells #[.int .i64 xk, .string ⟨xn.toArray⟩, .bool xb, .slice A3 dn n3, .int .i64 xz, .bool xo, .slice A6 xv.length n6, .int .i64 xa] 28)) (below_alloc1 _ (.cells #[.int .i64 0, .string ⟨#[]⟩, .bool false, .slice none 0 0, .int .i64 0, .bool false, .slice none 0 0, .int .i64 0] 47))
  have k5 : Blk (w.alloc (.cells #[.int .i64 xk, .string ⟨xn.toArray⟩, .bool xb, .slice A3 dn n3, .int .i64 xz, .bool xo, .slice A6 xv.length n6, .int .i64 xa] 28)) w.heap.size 28 #[.int .i64 xk, .string ⟨xn.toArray⟩, .bool xb, .slice A3 dn n3, .int .i64 xz, .bool xo, .slice A6 xv.length n6, .int .i64 xa] := Blk.new ..
  have k6 := k5.below (below_alloc1 _ (.cells #[.int .i64 0, .string ⟨#[]⟩, .bool false, .slice none 0 0, .int .i64 0, .bool false, .slice none 0 0, .int .i64 0] 47)) (Nat.le_refl _)
  have k7 : Blk ((w.alloc (.cells #[.int .i64 xk, .string ⟨xn.toArray⟩, .bool xb, .slice A3 dn n3, .int .i64 xz, .bool xo, .slice A6 xv.length n6, .int .i64 xa] 28)).alloc (.cells #[.int .i64 0, .string ⟨#[]⟩, .bool false, .slice none 0 0, .int .i64 0, .bool false, .slice none 0 0, .int .i64 0] 47)) (w.heap.size + 1) 47 #[.int .i64 0, .string ⟨#[]⟩, .bool false, .slice none 0 0, .int .i64 0, .bool false, .slice none 0 0, .int .i64 0] := Blk.at_ (by simp)
  have HC := Lib.hid (fun (w' : World) (q : Below w.heap.size w w') => theirs_exprs A6 n6 xv w' (Dt.below _ ha q (Nat.le_refl _)) hm.1 hm.2)
  clear ha hm k5
  go_enter Tryz.func21, Tryz.ntmps21
  go_upto_region 1 with fail
  generalize hW : ((w.alloc (.cells #[.int .i64 xk, .string ⟨xn.toArray⟩, .bool xb, .slice A3 dn n3, .int .i64 xz, .bool xo, .slice A6 xv.length n6, .int .i64 xa] 28)).alloc (.cells #[.int .i64 0, .string ⟨#[]⟩, .bool false, .slice none 0 0, .int .i64 0, .bool false, .slice none 0 0, .int .i64 0] 47)) = W at *
  have hWs : W.heap.size = w.heap.size + 1 + 1 := by rw [← hW]; simp
  clear hW
  have hcall : ∀ w9, Below W.heap.size W w9 → Calls Tryz.prog 30 #[.slice A6 xv.length n6] w9 fun e w' => (∃ S, e = .returned S ∧ (layE 102).row.P (since W.heap.size w') w' S (xv.map Ex.flat)) ∧ Below w9.heap.size w9 w' := fun w9 q =>
    (HC.out w9 (below_trans qa q)).mono fun e w' ⟨⟨v, e1, e2⟩, e3⟩ => ⟨⟨v, e1, (layE _).row.mono (fun b hb => ⟨Nat.le_trans q.size hb.1, hb.2⟩) (Lay.own_row e2)⟩, e3⟩
  have hsh : ∀ {w3 : World} {S : Value}, (layE 102).row.P (since W.heap.size w3) w3 S (xv.map Ex.flat) → ∃ A c, S = .slice A xv.length c := fun h => by
    obtain ⟨A, c, e⟩ := Lay.row_len h
    rw [List.length_map] at e
    exact ⟨A, c, e⟩
  have HCC := Lib.hid hcall
  clear hcall HC
  refine region_gen0 (n := 19) (frame := ?frame1) (fun L s w' => (L 0 = true → s 0 = .pointer (some ⟨w.heap.size, 0, none⟩)) ∧ (L 1 = true → s 1 = .int .i64 xk) ∧ (L 2 = true → s 2 = .pointer (some ⟨w.heap.size, 1, none⟩)) ∧ (L 3 = true → s 3 = .string ⟨xn.toArray⟩) ∧ (L 4 = true → s 4 = .pointer (some ⟨w.heap.size, 2, none⟩)) ∧ (L 5 = true → s 5 = .bool xb) ∧ (L 6 = true → s 6 = .pointer (some ⟨w.heap.size, 3, none⟩)) ∧ (L 7 = true → s 7 = .slice A3 dn n3) ∧ (L 8 = true → s 8 = .pointer (some ⟨w.heap.size, 4, none⟩)) ∧ (L 9 = true → s 9 = .int .i64 xz) ∧ (L 10 = true → s 10 = .pointer (some ⟨w.heap.size, 5, none⟩)) ∧ (L 11 = true → s 11 = .bool xo) ∧ (L 12 = true → s 12 = .pointer (some ⟨w.heap.size, 6, none⟩)) ∧ (L 13 = true → s 13 = .slice A6 xv.length n6) ∧ (L 15 = true → s 15 = .pointer (some ⟨w.heap.size, 7, none⟩)) ∧ (L 16 = true → s 16 = .int .i64 xa) ∧ (L 17 = true → s 17 = .agg (((fun S => #[.int .i64 xk, .string ⟨xn.toArray⟩, .bool xb, .slice A3 dn n3, .int .i64 xz, .bool xo, S, .int .i64 xa]) : Value → Array Value) (s 14))) ∧ (L 18 = false → Blk w' (w.heap.size) 28 #[.int .i64 xk, .string ⟨xn.toArray⟩, .bool xb, .slice A3 dn n3, .int .i64 xz, .bool xo, .slice A6 xv.length n6, .int .i64 xa]) ∧ PhC (W) (w.heap.size + 1) 47 #[.int .i64 0, .string ⟨#[]⟩, .bool false, .slice none 0 0, .int .i64 0, .bool false, .slice none 0 0, .int .i64 0] (fun w3 S => (layE 102).row.P (since W.heap.size w3) w3 S (xv.map Ex.flat)) ((fun S => #[.int .i64 xk, .string ⟨xn.toArray⟩, .bool xb, .slice A3 dn n3, .int .i64 xz, .bool xo, S, .int .i64 xa]) : Value → Array Value) (L 14) (L 18) (s 14) w') (by kernel_rfl) (by kernel_rfl) (by kernel_rfl) rfl ?_ ?_ ?_ ?_
  case refine_1 => exact ⟨fun h => no_f h, fun h => no_f h, fun h => no_f h, fun h => no_f h, fun h => no_f h, fun h => no_f h, fun h => no_f h, fun h => no_f h, fun h => no_f h, fun h => no_f h, fun h => no_f h, fun h => no_f h, fun h => no_f h, fun h => no_f h, fun h => no_f h, fun h => no_f h, fun h => no_f h, fun _ => (k6).drew, ⟨fun _ => (Read.refl _).drew.below _, fun h => no_f h, fun h => no_f h⟩⟩
  case refine_2 =>
    intro s
    simp only [fr, Act.put, List.append_eq, List.cons_append, List.nil_append, List.setIfInBounds_toArray, List.set_cons_zero, List.set_cons_succ, Nat.reduceAdd]
    rfl
  case refine_3 =>
    refine SC 0 1 rfl ?_ (SC 1 2 rfl ?_ (SC 2 3 rfl ?_ (SC 3 4 rfl ?_ (SC 4 5 rfl ?_ (SC 5 6 rfl ?_ (SC 6 7 rfl ?_ (SC 7 8 rfl ?_ (SC 8 9 rfl ?_ (SC 9 10 rfl ?_ (SC 10 11 rfl ?_ (SC 11 12 rfl ?_ (SC 12 13 rfl ?_ (SC 13 14 rfl ?_ (SC 14 15 rfl ?_ (SC 15 16 rfl ?_ (SC 16 17 rfl ?_ (SC 17 18 rfl ?_ (SC 18 19 rfl ?_ Steps.nil))))))))))))))))))
    all_goals (intro L s w9 hN hU hi hC hS K hK; dsimp only at hK ⊢; simp only [Act.put, List.setIfInBounds_toArray, List.set_cons_zero, List.set_cons_succ] at hK; obtain ⟨h_0, h_1, h_2, h_3, h_4, h_5, h_6, h_7, h_8, h_9, h_10, h_11, h_12, h_13, h_15, h_16, h_17, hBk, hP⟩ := hS; refine ite_of rfl ?_)
    · go_simp
      refine hK.out _ _ ?_
      exact ⟨fun _ => rfl, h_1, h_2, h_3, h_4, h_5, h_6, h_7, h_8, h_9, h_10, h_11, h_12, h_13, h_15, h_16, h_17, hBk, hP⟩
    · have e_0 := h_0 (hN.out 0 rfl)
      simp only [e_0] at hK ⊢
      have nm := Shut.no hC 18 17 rfl rfl (hU.out 17 _ rfl rfl)
      obtain ⟨u1, u2, u3, u4, u5, u6, u7, u8⟩ := Blk.eight (hBk nm)
      go_simp
      refine hK.out _ _ ?_
      exact ⟨h_0, fun _ => rfl, h_2, h_3, h_4, h_5, h_6, h_7, h_8, h_9, h_10, h_11, h_12, h_13, h_15, h_16, h_17, hBk, hP⟩
    · go_simp
      refine hK.out _ _ ?_
      exact ⟨h_0, h_1, fun _ => rfl, h_3, h_4, h_5, h_6, h_7, h_8, h_9, h_10, h_11, h_12, h_13, h_15, h_16, h_17, hBk, hP⟩
    · have e_2 := h_2 (hN.out 2 rfl)
      simp only [e_2] at hK ⊢
      have nm := Shut.no hC 18 17 rfl rfl (hU.out 17 _ rfl rfl)
      obtain ⟨u1, u2, u3, u4, u5, u6, u7, u8⟩ := Blk.eight (hBk nm)
      go_simp
      refine hK.out _ _ ?_
      exact ⟨h_0, h_1, h_2, fun _ => rfl, h_4, h_5, h_6, h_7, h_8, h_9, h_10, h_11, h_12, h_13, h_15, h_16, h_17, hBk, hP⟩
    · go_simp
      refine hK.out _ _ ?_
      exact ⟨h_0, h_1, h_2, h_3, fun _ => rfl, h_5, h_6, h_7, h_8, h_9, h_10, h_11, h_12, h_13, h_15, h_16, h_17, hBk, hP⟩
    · have e_4 := h_4 (hN.out 4 rfl)
      simp only [e_4] at hK ⊢
      have nm := Shut.no hC 18 17 rfl rfl (hU.out 17 _ rfl rfl)
      obtain ⟨u1, u2, u3, u4, u5, u6, u7, u8⟩ := Blk.eight (hBk nm)
      go_simp
      refine hK.out _ _ ?_
      exact ⟨h_0, h_1, h_2, h_3, h_4, fun _ => rfl, h_6, h_7, h_8, h_9, h_10, h_11, h_12, h_13, h_15, h_16, h_17, hBk, hP⟩
    · go_simp
      refine hK.out _ _ ?_
      exact ⟨h_0, h_1, h_2, h_3, h_4, h_5, fun _ => rfl, h_7, h_8, h_9, h_10, h_11, h_12, h_13, h_15, h_16, h_17, hBk, hP⟩
    · have e_6 := h_6 (hN.out 6 rfl)
      simp only [e_6] at hK ⊢
      have nm := Shut.no hC 18 17 rfl rfl (hU.out 17 _ rfl rfl)
      obtain ⟨u1, u2, u3, u4, u5, u6, u7, u8⟩ := Blk.eight (hBk nm)
      go_simp
      refine hK.out _ _ ?_
      exact ⟨h_0, h_1, h_2, h_3, h_4, h_5, h_6, fun _ => rfl, h_8, h_9, h_10, h_11, h_12, h_13, h_15, h_16, h_17, hBk, hP⟩
    · go_simp
      refine hK.out _ _ ?_
      exact ⟨h_0, h_1, h_2, h_3, h_4, h_5, h_6, h_7, fun _ => rfl, h_9, h_10, h_11, h_12, h_13, h_15, h_16, h_17, hBk, hP⟩
    · have e_8 := h_8 (hN.out 8 rfl)
      simp only [e_8] at hK ⊢
      have nm := Shut.no hC 18 17 rfl rfl (hU.out 17 _ rfl rfl)
      obtain ⟨u1, u2, u3, u4, u5, u6, u7, u8⟩ := Blk.eight (hBk nm)
      go_simp
      refine hK.out _ _ ?_
      exact ⟨h_0, h_1, h_2, h_3, h_4, h_5, h_6, h_7, h_8, fun _ => rfl, h_10, h_11, h_12, h_13, h_15, h_16, h_17, hBk, hP⟩
    · go_simp
      refine hK.out _ _ ?_
      exact ⟨h_0, h_1, h_2, h_3, h_4, h_5, h_6, h_7, h_8, h_9, fun _ => rfl, h_11, h_12, h_13, h_15, h_16, h_17, hBk, hP⟩
    · have e_10 := h_10 (hN.out 10 rfl)
      simp only [e_10] at hK ⊢
      have nm := Shut.no hC 18 17 rfl rfl (hU.out 17 _ rfl rfl)
      obtain ⟨u1, u2, u3, u4, u5, u6, u7, u8⟩ := Blk.eight (hBk nm)
      go_simp
      refine hK.out _ _ ?_
      exact ⟨h_0, h_1, h_2, h_3, h_4, h_5, h_6, h_7, h_8, h_9, h_10, fun _ => rfl, h_12, h_13, h_15, h_16, h_17, hBk, hP⟩
    · go_simp
      refine hK.out _ _ ?_
      exact ⟨h_0, h_1, h_2, h_3, h_4, h_5, h_6, h_7, h_8, h_9, h_10, h_11, fun _ => rfl, h_13, h_15, h_16, h_17, hBk, hP⟩
    · have e_12 := h_12 (hN.out 12 rfl)
      simp only [e_12] at hK ⊢
      have nm := Shut.no hC 18 17 rfl rfl (Shut.no hC 17 14 rfl rfl (hU.out 14 _ rfl rfl))
      obtain ⟨u1, u2, u3, u4, u5, u6, u7, u8⟩ := Blk.eight (hBk nm)
      go_simp
      refine hK.out _ _ ?_
      exact ⟨h_0, h_1, h_2, h_3, h_4, h_5, h_6, h_7, h_8, h_9, h_10, h_11, h_12, fun _ => rfl, h_15, h_16, h_17, hBk, hP⟩
    · have e_13 := h_13 (hN.out 13 rfl)
      simp only [e_13] at hK ⊢
      have hq := hP.p0 hi.out
      have nb := hU.out 17 _ rfl rfl
      have nm := Shut.no hC 18 17 rfl rfl nb
      go_simp
      go_at_call 30
      refine (HCC.out _ hq).mono ?_
      rintro e9 w10 ⟨⟨S9, rfl, hR⟩, q⟩
      refine hK.out _ _ ?_
      exact ⟨h_0, h_1, h_2, h_3, h_4, h_5, h_6, h_7, h_8, h_9, h_10, h_11, h_12, h_13, h_15, h_16, fun h => no_f (nb.symm.trans h), fun h => ((hBk h).below q (Nat.le_refl _)), ⟨fun h => no_t h, fun _ _ => ⟨below_trans hq q, hR⟩, fun h => no_f (nm.symm.trans h)⟩⟩
    · go_simp
      refine hK.out _ _ ?_
      exact ⟨h_0, h_1, h_2, h_3, h_4, h_5, h_6, h_7, h_8, h_9, h_10, h_11, h_12, h_13, fun _ => rfl, h_16, h_17, hBk, hP⟩
    · have e_15 := h_15 (hN.out 15 rfl)
      simp only [e_15] at hK ⊢
      have nm := Shut.no hC 18 17 rfl rfl (hU.out 17 _ rfl rfl)
      obtain ⟨u1, u2, u3, u4, u5, u6, u7, u8⟩ := Blk.eight (hBk nm)
      go_simp
      refine hK.out _ _ ?_
      exact ⟨h_0, h_1, h_2, h_3, h_4, h_5, h_6, h_7, h_8, h_9, h_10, h_11, h_12, h_13, h_15, fun _ => rfl, h_17, hBk, hP⟩
    · have e_1 := h_1 (hN.out 1 rfl)
      simp only [e_1] at hK ⊢
      have e_3 := h_3 (hN.out 3 rfl)
      simp only [e_3] at hK ⊢
      have e_5 := h_5 (hN.out 5 rfl)
      simp only [e_5] at hK ⊢
      have e_7 := h_7 (hN.out 7 rfl)
      simp only [e_7] at hK ⊢
      have e_9 := h_9 (hN.out 9 rfl)
      simp only [e_9] at hK ⊢
      have e_11 := h_11 (hN.out 11 rfl)
      simp only [e_11] at hK ⊢
      have e_16 := h_16 (hN.out 16 rfl)
      simp only [e_16] at hK ⊢
      have nm := hU.out 18 _ rfl rfl
      obtain ⟨hq, hR⟩ := hP.p1 (hN.out 14 rfl) nm
      obtain ⟨SA, Sc, eS⟩ := hsh hR
      simp only [eS] at hK ⊢
      go_simp
      refine hK.out _ _ ?_
      exact ⟨h_0, h_1, h_2, h_3, h_4, h_5, h_6, h_7, h_8, h_9, h_10, h_11, h_12, h_13, h_15, h_16, fun _ => congrArg (fun S => Value.agg (((fun S => #[.int .i64 xk, .string ⟨xn.toArray⟩, .bool xb, .slice A3 dn n3, .int .i64 xz, .bool xo, S, .int .i64 xa]) : Value → Array Value) S)) eS.symm, hBk, hP⟩
    · have e_b := h_17 (hN.out 17 rfl)
      have lc : L 14 = true := hC.out 17 _ rfl (hN.out 17 rfl) 14 rfl
      obtain ⟨hq, hR⟩ := hP.p1 lc hi.out
      obtain ⟨SA, Sc, eS⟩ := hsh hR
      have e_b2 := e_b.trans (congrArg (fun S => Value.agg (((fun S => #[.int .i64 xk, .string ⟨xn.toArray⟩, .bool xb, .slice A3 dn n3, .int .i64 xz, .bool xo, S, .int .i64 xa]) : Value → Array Value) S)) eS)
      dsimp only at e_b2
      simp only [e_b2] at hK ⊢
      have b9 := (k7).below hq (Nat.le_refl _)
      refine wp_store_row _ _ _ rfl (w.heap.size + 1) _ rfl rfl _ _ b9 size_pitem rfl (by rw [← Array.all_toList]; rfl) ?_
      simp only [Act.put]
      exact hK.out undef _ ⟨h_0, h_1, h_2, h_3, h_4, h_5, h_6, h_7, h_8, h_9, h_10, h_11, h_12, h_13, h_15, h_16, h_17, fun h => no_t h, ⟨fun h => no_f (Eq.trans (Eq.symm h) lc), fun _ h => no_t h, fun _ => ⟨w9, hq, hR, setRow_grown _ _ _, Eq.mpr (congrArg (fun S => Blk _ _ _ (((fun S => #[.int .i64 xk, .string ⟨xn.toArray⟩, .bool xb, .slice A3 dn n3, .int .i64 xz, .bool xo, S, .int .i64 xa]) : Value → Array Value) S)) eS) (b9.row _)⟩⟩⟩
  intro L s w9 hall hS
  obtain ⟨h_0, h_1, h_2, h_3, h_4, h_5, h_6, h_7, h_8, h_9, h_10, h_11, h_12, h_13, h_15, h_16, h_17, hBk, hP⟩ := hS
  obtain ⟨w3, hq9, hR9, hg9, hG9⟩ := hP.p2 (hall 18 (by decide))
  clear hP hBk hall h_0 h_1 h_2 h_3 h_4 h_5 h_6 h_7 h_8 h_9 h_10 h_11 h_12 h_13 h_15 h_16 h_17
  obtain ⟨SA, Sc, eS⟩ := hsh hR9
  have hRow := (layE 102).row.mono (F' := since w.heap.size w9) (fun b hb => ⟨by have := hb.1; omega, Nat.lt_of_lt_of_le hb.2 hg9.size⟩) (Dt.grown _ hR9 hg9 (fun b hb e => by injection e with e; have := hb.1; omega))
  have hbb : Below w.heap.size w w9 := grown_below (below_trans qa hq9) hg9 (by omega)
  obtain ⟨f1, f2, f3, f4, f5, f6, f7, f8⟩ := Blk.eight hG9
  clear hR9 hq9 hg9 hG9 k6 k7 HCC
  go_wp2
  exact bodyPost_ret (v := .agg #[.int .i64 xk, .string ⟨xn.toArray⟩, .bool xb, .slice A3 dn n3, .int .i64 xz, .bool xo, s 14, .int .i64 xa]) (by simp [results, Tryz.results21, go_sem, f1, f2, f3, f4, f5, f6, f7, f8]) rfl ⟨⟨_, rfl, ⟨SA, Sc, eS⟩, hRow⟩, hbb⟩
theorem all_items {F:Nat→Prop} (A:Option Addr) (c:Nat) (l:List It) (w0 w:World) (h0:(layI 28 50).row.P F w0 (.slice A l.length c) l) (hw0:Below w0.heap.size w0 w) (hn:l.length≤10000) (hm:∀x∈l,x.vals.length≤10000∧∀y∈x.vals,y.l.length≤10000):Calls Tryz.prog 10 #[.slice A l.length c] w fun e w'=>(∃v,e= .returned v∧(layIat w0 F 47 102).own w.heap.size w' v (l.map It.flat))∧Below w.heap.size w w':=by
 have HM:=Lib.hid hm;clear hm;go_enter Tryz.func10,Tryz.ntmps10;go_wp2_with fail;go_loopg [3,8] l.length (fun k v a wr=>∃j,k=l.length-j∧j≤l.length∧a= .int .i64 (j:Nat)∧(layIat w0 F 47 102).own w.heap.size wr v ((l.take j).map It.flat)∧Below w.heap.size w wr∧Below w0.heap.size w0 wr)
 case atStart=>exact ⟨0,rfl,Nat.zero_le _,rfl,Lay.own_nil _ _ _,Below.refl _ _,hw0⟩
 case round=>
  obtain ⟨j,hk,hj,rfl,ho,hb,hb0⟩:=hrel;by_cases hlt:j<l.length
  ·have d1:decide ((j:Int)<(l.length:Int))=true:=decide_eq_true (by omega);obtain ⟨A',c',hAA,hlc,hcm,hrow⟩:=h0;obtain ⟨b,o,hA,hF,hbl,hcell⟩:=hrow (lt_ne hlt);obtain ⟨u3,hu3,hdom⟩:=hcell j hlt 3 (by show 3<8;omega);have hdom0:layR.row.P F w0 u3 l[j].dom:=hdom;have hw:=Dt.below (layI 28 50).row (F:=F) (v:= .slice A l.length c) (a:=l) ⟨A',c',hAA,hlc,hcm,hrow⟩ hb0 (Nat.le_refl _);obtain ⟨b',o',hA',hbl',hc⟩:=row_it hw (lt_ne hlt);obtain ⟨f0,f1,f2,f4,f5,f7,⟨A3,n3,f3,-⟩,A6,n6,f6,h6⟩:=hc j hlt;have hAe:A=A':=by injection hAA
   subst hAe;rw[hA]at hA';injection hA' with hA';injection hA' with e1 e2 _;subst e1 e2;have hu:u3= .slice A3 l[j].dom.length n3:=by
    have:=(hb0.cell (p:=⟨b,o+j*8+3,none⟩) hbl).symm.trans f3;exact Option.some.inj (hu3.symm.trans this)
   subst hu;subst hA;have hm1:=HM.out l[j] (List.getElem_mem hlt);have hs:(l.take (j+1)).map It.flat=(l.take j).map It.flat++[l[j].flat]:=by rw[take_snoc hlt,List.map_append];rfl
   have HS:=Lib.hid hs;have hlen:((l.take j).map It.flat).length≤1000000:=by rw[List.length_map,List.length_take];omega
   clear hs hw hc hrow hdom hcell hAA hu3;have HT:=Lib.hid (fun (w':World) (q:Below wr.heap.size wr w')=>theirs7_any l[j] A3 n3 A6 n6 w' (Dt.below _ h6 q (Nat.le_refl _)) hm1);generalize l[j]=x at*;obtain ⟨xk,xn,xb,xd,xz,xo,xv,xa⟩:=x;dsimp only at f0 f1 f2 f3 f4 f5 f6 f7 hdom0 h6 hm1 HT;have qa:=below_alloc1 wr (.cells #[.int .i64 xk,.string ⟨xn.toArray⟩,.bool xb,.slice A3 xd.length n3,.int .i64 xz,.bool xo,.slice A6 xv.length n6,.int .i64 xa] 28);have ho2:=Lay.own_below ho qa;clear h6 hm1 ho;go_wp2_with fail;refine (HT.out _ qa).mono ?_;rintro e w3 ⟨⟨S,rfl,⟨SA,Sc,rfl⟩,hR⟩,q3⟩;have qb:=below_trans qa q3;have ho3:=Lay.own_below ho2 q3;have hb3:=below_trans hb qb;have hb03:=hb0.trans (qb.mono hb0.size);have hbase:=hb.size;have hbase3:=hb3.size;have hnew:=it_new (ty:=47) (te:=102) (x:=It.flat ⟨xk,xn,xb,xd,xz,xo,xv,xa⟩) hdom0 ((layE 102).row.mono (F':=inF w.heap.size w3 _) (fun b hb=>⟨by have:=hb.1;have:=qa.size;omega,hb.2,fun e=>by have:=(Lay.own_lt ho2 _ e).2;have:=hb.1;omega⟩) hR);have HN:=Lib.hid hnew;clear f0 f1 f2 f3 f4 f5 f6 f7 hR hnew q3 qa ho2 hb hb0 HT;go_wp2_with (at_builtin;refine Lay.wp_app (layIat w0 F 47 102) _ _ w3 w.heap.size _ ((l.take j).map It.flat) (It.flat ⟨xk,xn,xb,xd,xz,xo,xv,xa⟩) #[.int .i64 xk,.string ⟨xn.toArray⟩,.bool xb,.slice A3 xd.length n3,.int .i64 xz,.bool xo,.slice SA xv.length Sc,.int .i64 xa] (by first|rfl|simp) Tryz.underlying32 info_pitem rfl (Nat.zero_lt_succ _) (by decide) ho3 hbase3 hlen rfl rfl HN.out rfl rfl rfl rfl ?_;intro v7 w7 ho7 hg7 hb7 _);go_roundg (l.length-(j+1))
   case measure=>omega
   case rel=>exact ⟨j+1,rfl,by omega,by simp,by rw[HS.out];exact ho7,hb3.trans hb7,hb03.trans (hb7.mono (by have:=hw0.size;omega))⟩
  ·have d1:decide ((j:Int)<(l.length:Int))=false:=decide_eq_false (by omega);have e1:l.take j=l:=List.take_of_length_le (by omega);rw[e1]at ho;go_wp2;go_ret;exact ⟨⟨_,rfl,ho⟩,hb⟩
end Go.Proofs.YtpfhgkielakmoaaGreatDoor

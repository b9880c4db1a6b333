/-
  Contracts of the document's fractions: made, opposites, rounding, texts, sameness.
-/
import Derived.Test.YtdhikpfppbcjkaaQf
set_option linter.unusedSimpArgs false
set_option linter.unusedVariables false
namespace Go.Proofs.Ytdhikpfppbcjkaa
open Go.RowKit Num

set_option maxRecDepth 100000 in
set_option maxHeartbeats 1000000 in
theorem rqneg_any {n m : Bool} {A B : Option Addr} {c d : Nat} {xs ys : List Nat} {w : World} (ha : Rd w A c xs) (hb : Rd w B d ys) :
    Calls Try.prog 41 #[rv n A xs.length c m B ys.length d] w fun e w' => RetQE w w' e (qnegR n xs m ys) := by
  have M : Mem w ((w.alloc (.cells #[.bool n, .slice A xs.length c, .bool m, .slice B ys.length d] 26)).alloc (.cells #[.bool false, .slice none 0 0, .bool false, .slice none 0 0] 26)) [(w.heap.size + 1, 26, #[.bool false, .slice none 0 0, .bool false, .slice none 0 0]), (w.heap.size, 26, #[.bool n, .slice A xs.length c, .bool m, .slice B ys.length d])] [(B, d, ys), (A, c, xs)] :=
    (((((Mem.start w).addR ha).addR hb).new 26 #[.bool n, .slice A xs.length c, .bool m, .slice B ys.length d]).newAt (by simp) 26 #[.bool false, .slice none 0 0, .bool false, .slice none 0 0])
  have ox := ha.ok
  have oy := hb.ok
  clear ha hb
  rcases Bool.eq_false_or_eq_true (qright n xs m ys) with h | h
  case inr =>
    have HB := Lib.hid h
    unfold qnegR
    rw [h]
    clear h ox oy
    obtain ⟨v1, v2, v3, v4⟩ := (M.k (i := 1) rfl).four
    go_enter Try.func41, Try.ntmps41
    go_wp2_with fail
    refine (rqright_any (M.r (i := 1) rfl) (M.r (i := 0) rfl)).mono ?_
    rw [HB.out]
    rintro e z1 ⟨rfl, q⟩
    replace M := M.below q
    clear q v1 v2 v3 v4
    obtain ⟨v1, v2, v3, v4⟩ := (M.k (i := 1) rfl).four
    go_wp2_with ((with_reducible show wpList _ _ _ (Oper.mk none (Op.store _ _ _) _ _ _ _ :: _) _ _); refine wp_put (o := ⟨none, .store _ _ _, _, _, _, _⟩) _ _ (M.k (i := 0) rfl) rfl rfl rfl rfl info_rrat rfl rfl ?_; intro w4 b4 g4; replace M := M.rowAt (i := 0) rfl (by omega) (by simp <;> omega) rfl b4 g4; obtain ⟨f1, f2, f3, f4⟩ := (M.k (i := 0) rfl).four)
    exact bodyPost_ret (v := .tuple #[rv false none 0 0 false none 0 0, .int .i64 2]) (by simp [results, Try.results41, go_sem, f1, f2, f3, f4]) rfl ⟨⟨none, 0, none, 0, rfl, Rd.nil, Rd.nil⟩, M.bel⟩
  have HB := Lib.hid h
  obtain ⟨nn, e1, e2, -⟩ := neg_facts ox oy h
  rw [e2]
  have H1 := Lib.hid e1
  clear h ox oy e1 e2
  obtain ⟨v1, v2, v3, v4⟩ := (M.k (i := 1) rfl).four
  go_enter Try.func41, Try.ntmps41
  go_wp2_with fail
  refine (rqright_any (M.r (i := 1) rfl) (M.r (i := 0) rfl)).mono ?_
  rw [HB.out]
  rintro e z1 ⟨rfl, q⟩
  replace M := M.below q
  clear q v1 v2 v3 v4
  obtain ⟨v1, v2, v3, v4⟩ := (M.k (i := 1) rfl).four
  go_wp2_with fail
  refine (rsneg_any _ A c _ _ (M.r (i := 1) rfl)).mono ?_
  rw [H1.out]
  rintro e w2 ⟨⟨A4, c4, rfl, h⟩, q⟩
  replace M := (M.below q).addR h
  have p2 := (M.k (i := 0) rfl).lt
  replace M := M.new 24 #[.bool nn, .slice A4 xs.length c4]
  clear q h v1 v2 v3 v4
  obtain ⟨v1, v2, v3, v4⟩ := (M.k (i := 2) rfl).four
  obtain ⟨v5, v6, _, _⟩ := (M.k (i := 0) rfl).both
  go_wp2_with ((with_reducible show wpList _ _ _ (Oper.mk none (Op.store _ _ _) _ _ _ _ :: _) _ _); refine wp_put (o := ⟨none, .store _ _ _, _, _, _, _⟩) _ _ (M.k (i := 1) rfl) rfl rfl rfl rfl info_rrat rfl rfl ?_; intro w4 b4 g4; replace M := M.rowAt (i := 1) rfl (by omega) (by simp <;> omega) rfl b4 g4; obtain ⟨f1, f2, f3, f4⟩ := (M.k (i := 1) rfl).four)
  exact bodyPost_ret (v := .tuple #[rv nn A4 xs.length c4 m B ys.length d, .int .i64 0]) (by simp [results, Try.results41, go_sem, f1, f2, f3, f4]) rfl ⟨⟨A4, c4, B, d, rfl, M.r (i := 0) rfl, M.r (i := 1) rfl⟩, M.bel⟩
set_option maxRecDepth 100000 in
set_option maxHeartbeats 1000000 in
theorem rqfloor_any {n m : Bool} {A B : Option Addr} {c d : Nat} {xs ys : List Nat} {w : World} (ha : Rd w A c xs) (hb : Rd w B d ys) :
    Calls Try.prog 24 #[rv n A xs.length c m B ys.length d] w fun e w' => RetI w w' e (qfloorR n xs m ys) := by
  have M : Mem w ((w.alloc (.cells #[.bool n, .slice A xs.length c, .bool m, .slice B ys.length d] 26)).alloc (.cells #[.bool false, .slice none 0 0] 24)) [(w.heap.size + 1, 24, #[.bool false, .slice none 0 0]), (w.heap.size, 26, #[.bool n, .slice A xs.length c, .bool m, .slice B ys.length d])] [(B, d, ys), (A, c, xs)] :=
    (((((Mem.start w).addR ha).addR hb).new 26 #[.bool n, .slice A xs.length c, .bool m, .slice B ys.length d]).newAt (by simp) 24 #[.bool false, .slice none 0 0])
  have ox := ha.ok
  have oy := hb.ok
  clear ha hb
  rcases Bool.eq_false_or_eq_true (qright n xs m ys) with h | h
  case inr =>
    have HB := Lib.hid h
    unfold qfloorR
    rw [h]
    clear h ox oy
    obtain ⟨v1, v2, v3, v4⟩ := (M.k (i := 1) rfl).four
    go_enter Try.func24, Try.ntmps24
    go_wp2_with fail
    refine (rqright_any (M.r (i := 1) rfl) (M.r (i := 0) rfl)).mono ?_
    rw [HB.out]
    rintro e z1 ⟨rfl, q⟩
    replace M := M.below q
    clear q v1 v2 v3 v4
    obtain ⟨v1, v2, v3, v4⟩ := (M.k (i := 1) rfl).four
    go_wp2_with ((with_reducible show wpList _ _ _ (Oper.mk none (Op.store _ _ _) _ _ _ _ :: _) _ _); refine wp_put (o := ⟨none, .store _ _ _, _, _, _, _⟩) _ _ (M.k (i := 0) rfl) rfl rfl rfl rfl info_rint rfl rfl ?_; intro w4 b4 g4; replace M := M.rowAt (i := 0) rfl (by omega) (by simp <;> omega) rfl b4 g4; obtain ⟨f1, f2, _, _⟩ := (M.k (i := 0) rfl).both)
    exact bodyPost_ret (v := .tuple #[iv false none 0 0, .int .i64 2]) (by simp [results, Try.results24, go_sem, f1, f2]) rfl ⟨⟨none, 0, rfl, Rd.nil⟩, M.bel⟩
  have HB := Lib.hid h
  obtain ⟨rn, rd, e1, e2⟩ := floor_facts ox oy h
  generalize qfloorR n xs m ys = r at *
  obtain ⟨fn, fd, fe⟩ := r
  simp only at e1 e2
  subst e2
  have H1 := Lib.hid e1
  clear h ox oy e1
  obtain ⟨v1, v2, v3, v4⟩ := (M.k (i := 1) rfl).four
  go_enter Try.func24, Try.ntmps24
  go_wp2_with fail
  refine (rqright_any (M.r (i := 1) rfl) (M.r (i := 0) rfl)).mono ?_
  rw [HB.out]
  rintro e z1 ⟨rfl, q⟩
  replace M := M.below q
  clear q v1 v2 v3 v4
  obtain ⟨v1, v2, v3, v4⟩ := (M.k (i := 1) rfl).four
  go_wp2_with fail
  refine (rsdivmod_any _ _ A B c d _ _ _ (M.r (i := 1) rfl) (M.r (i := 0) rfl)).mono ?_
  rw [H1.out]
  rintro e w2 ⟨⟨A4, c4, B4, d4, rfl, h, k⟩, q⟩
  replace M := ((M.below q).addR k).addR h
  have p2 := (M.k (i := 0) rfl).lt
  replace M := (M.new 24 #[.bool fn, .slice A4 fd.length c4]).newAt (g := w2.heap.size + 1) (by simp) 24 #[.bool rn, .slice B4 rd.length d4]
  clear q h k v1 v2 v3 v4
  obtain ⟨v1, v2, _, _⟩ := (M.k (i := 1) rfl).both
  go_wp2_with ((with_reducible show wpList _ _ _ (Oper.mk none (Op.store _ _ _) _ _ _ _ :: _) _ _); refine wp_put (o := ⟨none, .store _ _ _, _, _, _, _⟩) _ _ (M.k (i := 2) rfl) rfl rfl rfl rfl info_rint rfl rfl ?_; intro w4 b4 g4; replace M := M.rowAt (i := 2) rfl (by omega) (by simp <;> omega) rfl b4 g4; obtain ⟨f1, f2, _, _⟩ := (M.k (i := 2) rfl).both)
  exact bodyPost_ret (v := .tuple #[iv fn A4 fd.length c4, .int .i64 0]) (by simp [results, Try.results24, go_sem, f1, f2]) rfl ⟨⟨A4, c4, rfl, M.r (i := 0) rfl⟩, M.bel⟩
set_option maxRecDepth 100000 in
set_option maxHeartbeats 2000000 in
theorem rqceil_any {n m : Bool} {A B : Option Addr} {c d : Nat} {xs ys : List Nat} {w : World} (ha : Rd w A c xs) (hb : Rd w B d ys) :
    Calls Try.prog 26 #[rv n A xs.length c m B ys.length d] w fun e w' => RetI w w' e (qceilR n xs m ys) := by
  have M : Mem w ((w.alloc (.cells #[.bool n, .slice A xs.length c, .bool m, .slice B ys.length d] 26)).alloc (.cells #[.bool false, .slice none 0 0] 24)) [(w.heap.size + 1, 24, #[.bool false, .slice none 0 0]), (w.heap.size, 26, #[.bool n, .slice A xs.length c, .bool m, .slice B ys.length d])] [(B, d, ys), (A, c, xs)] :=
    (((((Mem.start w).addR ha).addR hb).new 26 #[.bool n, .slice A xs.length c, .bool m, .slice B ys.length d]).newAt (by simp) 24 #[.bool false, .slice none 0 0])
  have ox := ha.ok
  have oy := hb.ok
  clear ha hb
  rcases Bool.eq_false_or_eq_true (qright n xs m ys) with h | h
  case inr =>
    have HB := Lib.hid h
    unfold qceilR
    rw [h]
    clear h ox oy
    obtain ⟨v1, v2, v3, v4⟩ := (M.k (i := 1) rfl).four
    go_enter Try.func26, Try.ntmps26
    go_wp2_with fail
    refine (rqright_any (M.r (i := 1) rfl) (M.r (i := 0) rfl)).mono ?_
    rw [HB.out]
    rintro e z1 ⟨rfl, q⟩
    replace M := M.below q
    clear q v1 v2 v3 v4
    obtain ⟨v1, v2, v3, v4⟩ := (M.k (i := 1) rfl).four
    go_wp2_with ((with_reducible show wpList _ _ _ (Oper.mk none (Op.store _ _ _) _ _ _ _ :: _) _ _); refine wp_put (o := ⟨none, .store _ _ _, _, _, _, _⟩) _ _ (M.k (i := 0) rfl) rfl rfl rfl rfl info_rint rfl rfl ?_; intro w4 b4 g4; replace M := M.rowAt (i := 0) rfl (by omega) (by simp <;> omega) rfl b4 g4; obtain ⟨f1, f2, _, _⟩ := (M.k (i := 0) rfl).both)
    exact bodyPost_ret (v := .tuple #[iv false none 0 0, .int .i64 2]) (by simp [results, Try.results26, go_sem, f1, f2]) rfl ⟨⟨none, 0, rfl, Rd.nil⟩, M.bel⟩
  have HB := Lib.hid h
  obtain ⟨fn, fd, rn, rd, e1, y1, e2, e3⟩ := rceil_facts ox oy h
  have H1 := Lib.hid e1
  by_cases hr : rd = []
  · rw [e2 hr]
    subst hr
    clear h ox oy e1 e2 e3 y1
    obtain ⟨v1, v2, v3, v4⟩ := (M.k (i := 1) rfl).four
    go_enter Try.func26, Try.ntmps26
    go_wp2_with fail
    refine (rqright_any (M.r (i := 1) rfl) (M.r (i := 0) rfl)).mono ?_
    rw [HB.out]
    rintro e z1 ⟨rfl, q⟩
    replace M := M.below q
    clear q v1 v2 v3 v4
    obtain ⟨v1, v2, v3, v4⟩ := (M.k (i := 1) rfl).four
    go_wp2_with fail
    refine (rsdivmod_any _ _ A B c d _ _ _ (M.r (i := 1) rfl) (M.r (i := 0) rfl)).mono ?_
    rw [H1.out]
    rintro e w2 ⟨⟨A4, c4, B4, d4, rfl, h, k⟩, q⟩
    replace M := ((M.below q).addR k).addR h
    have p2 := (M.k (i := 0) rfl).lt
    clear q h k v1 v2 v3 v4
    replace M := (M.new 24 #[.bool fn, .slice A4 fd.length c4]).newAt (g := w2.heap.size + 1) (by simp) 24 #[.bool rn, .slice B4 0 d4]
    obtain ⟨v1, v2, _, _⟩ := (M.k (i := 1) rfl).both
    obtain ⟨v3, v4, _, _⟩ := (M.k (i := 0) rfl).both
    go_wp2_with ((with_reducible show wpList _ _ _ (Oper.mk none (Op.store _ _ _) _ _ _ _ :: _) _ _); refine wp_put (o := ⟨none, .store _ _ _, _, _, _, _⟩) _ _ (M.k (i := 2) rfl) rfl rfl rfl rfl info_rint rfl rfl ?_; intro w4 b4 g4; replace M := M.rowAt (i := 2) rfl (by omega) (by simp <;> omega) rfl b4 g4; obtain ⟨f1, f2, _, _⟩ := (M.k (i := 2) rfl).both)
    exact bodyPost_ret (v := .tuple #[iv fn A4 fd.length c4, .int .i64 0]) (by simp [results, Try.results26, go_sem, f1, f2]) rfl ⟨⟨A4, c4, rfl, M.r (i := 0) rfl⟩, M.bel⟩
  · obtain ⟨cn, cd, e4, e5⟩ := e3 hr
    rw [e5]
    have H4 := Lib.hid e4
    have Y1 := Lib.hid y1
    have hr0 : 0 < rd.length := List.length_pos_iff.2 hr
    clear h ox oy e1 e2 e3 e4 e5 y1 hr
    obtain ⟨v1, v2, v3, v4⟩ := (M.k (i := 1) rfl).four
    go_enter Try.func26, Try.ntmps26
    go_wp2_with fail
    refine (rqright_any (M.r (i := 1) rfl) (M.r (i := 0) rfl)).mono ?_
    rw [HB.out]
    rintro e z1 ⟨rfl, q⟩
    replace M := M.below q
    clear q v1 v2 v3 v4
    obtain ⟨v1, v2, v3, v4⟩ := (M.k (i := 1) rfl).four
    go_wp2_with fail
    refine (rsdivmod_any _ _ A B c d _ _ _ (M.r (i := 1) rfl) (M.r (i := 0) rfl)).mono ?_
    rw [H1.out]
    rintro e w2 ⟨⟨A4, c4, B4, d4, rfl, h, k⟩, q⟩
    replace M := ((M.below q).addR k).addR h
    have p2 := (M.k (i := 0) rfl).lt
    clear q h k v1 v2 v3 v4
    replace M := (M.new 24 #[.bool fn, .slice A4 fd.length c4]).newAt (g := w2.heap.size + 1) (by simp) 24 #[.bool rn, .slice B4 rd.length d4]
    obtain ⟨v3, v4, _, _⟩ := (M.k (i := 0) rfl).both
    go_upto_region 5 with fail
    generalize hw2 : w2.heap.size = g2 at *
    generalize (w2.alloc (.cells #[.bool fn, .slice A4 fd.length c4] 24)).alloc (.cells #[.bool rn, .slice B4 rd.length d4] 24) = W at *
    have M2 : Mem w W [(w.heap.size + 1, 24, #[.bool false, .slice none 0 0]), (g2, 24, #[.bool fn, .slice A4 fd.length c4])] [(A4, c4, fd)] := M.sub (by simp) (by simp)
    refine region_st (n := 5) (frame := ?frame1) (fun j => [.val (.fix (.agg #[.bool fn, .slice A4 fd.length c4])), .val (.num (sN 1) (sD 1)), .val (.num cn cd), .none, .val (.fix (.int .i64 0))].getD j .none) [⟨w.heap.size + 1, 3, 24, #[.bool false, .slice none 0 0], .num cn cd⟩] (by kernel_rfl) (by kernel_rfl) (by kernel_rfl) rfl (Mem.tailK M2) (own_of M2 (by omega) (by simp <;> omega) rfl) own_one ?_ ?_ ?_
    case refine_1 =>
      intro s
      simp only [fr, Act.put, List.append_eq, List.cons_append, List.nil_append, List.setIfInBounds_toArray, List.set_cons_zero, List.set_cons_succ, Nat.reduceAdd]
      rfl
    case refine_2 =>
      refine Steps.cons 0 (j := 1) rfl ?_ (Steps.cons 1 (j := 2) rfl ?_ (Steps.cons 2 (j := 3) rfl ?_ (Steps.cons 3 (j := 4) rfl ?_ (Steps.cons 4 (j := 5) rfl ?_ Steps.nil))))
      · intro L s w9 hN hU hi hS K hK
        dsimp only at hK ⊢
        simp only [Act.put, List.setIfInBounds_toArray, List.set_cons_zero, List.set_cons_succ] at hK
        obtain ⟨u1, u2, _, _⟩ := (hS.mem.k (i := 0) rfl).both
        go_simp
        exact hK.out _ _ (hS.val rfl rfl (Below.refl _ _) rfl)
      · intro L s w9 hN hU hi hS K hK
        dsimp only at hK ⊢
        simp only [Act.put, List.setIfInBounds_toArray, List.set_cons_zero, List.set_cons_succ] at hK
        go_simp
        go_at_call 53
        refine (rsof_any 1 _ (by decide) (by decide)).mono ?_
        rintro e9 w10 ⟨⟨A0, c0, rfl, h0⟩, q⟩
        exact hK.out _ _ (hS.val rfl rfl q ⟨A0, c0, rfl, h0⟩)
      · intro L s w9 hN hU hi hS K hK
        dsimp only at hK ⊢
        simp only [Act.put, List.setIfInBounds_toArray, List.set_cons_zero, List.set_cons_succ] at hK
        have e0 : s 0 = .agg #[.bool fn, .slice A4 fd.length c4] := hS.val_at 0 rfl (by decide) (hN.out 0 rfl)
        simp only [e0] at hK ⊢
        obtain ⟨A1, c1, e1, h1⟩ := hS.val_at 1 rfl (by decide) (hN.out 1 rfl)
        simp only [e1] at hK ⊢
        go_simp
        go_at_call 55
        refine (sum_use Y1.out (sright_sd (z := 1) (by decide)) H4.out (hS.mem.r (i := 0) rfl) h1).mono ?_
        rintro e9 w10 ⟨⟨A0, c0, rfl, h0⟩, q⟩
        exact hK.out _ _ (hS.val rfl rfl q ⟨A0, c0, rfl, h0⟩)
      · intro L s w9 hN hU hi hS K hK
        dsimp only at hK ⊢
        simp only [Act.put, List.setIfInBounds_toArray, List.set_cons_zero, List.set_cons_succ] at hK
        obtain ⟨A2, c2, e2, h2⟩ := hS.val_at 2 rfl (by decide) (hN.out 2 rfl)
        simp only [e2] at hK ⊢
        obtain ⟨_, _, _, cs9, b9, n9, z9, _⟩ := hS.own_at 0 rfl
        obtain rfl := z9 hi.out
        refine ite_of rfl ?_
        refine wp_store_row _ _ _ rfl (w.heap.size + 1) _ rfl rfl _ _ b9 info_rint rfl (by rw [← Array.all_toList]; rfl) ?_
        simp only [Act.put]
        exact hK.out undef _ (hS.fillOwn (u := undef) rfl (k := 0) rfl rfl rfl (setRow_grown _ _ _) (b9.row _) rfl ⟨A2, c2, rfl, h2⟩)
      · intro L s w9 hN hU hi hS K hK
        dsimp only at hK ⊢
        simp only [Act.put, List.setIfInBounds_toArray, List.set_cons_zero, List.set_cons_succ] at hK
        go_simp
        exact hK.out _ _ (hS.val rfl rfl (Below.refl _ _) rfl)
    intro L s w9 hall hS
    obtain ⟨_, _, _, ocs, ob, on, _, oz⟩ := hS.own_at 0 rfl
    obtain ⟨oA, oc, rfl, oh⟩ := oz (hall 3 (by decide))
    obtain ⟨f1, f2, _, _⟩ := ob.both
    have e4 : s 4 = .int .i64 0 := hS.val_at 4 rfl (by decide) (hall 4 (by decide))
    go_wp2
    exact bodyPost_ret (v := .tuple #[iv cn oA cd.length oc, .int .i64 0]) (by simp [results, Try.results26, go_sem, f1, f2, e4]) rfl ⟨⟨oA, oc, rfl, oh⟩, hS.mem.bel⟩
set_option maxRecDepth 100000 in
set_option maxHeartbeats 1000000 in
theorem rqtext_any {n m : Bool} {A B : Option Addr} {c d : Nat} {xs ys : List Nat} {w : World} (ha : Rd w A c xs) (hb : Rd w B d ys) :
    Calls Try.prog 28 #[rv n A xs.length c m B ys.length d] w fun e w' => RetTE w w' e (qtextR n xs m ys) := by
  have M : Mem w (w.alloc (.cells #[.bool n, .slice A xs.length c, .bool m, .slice B ys.length d] 26)) [(w.heap.size, 26, #[.bool n, .slice A xs.length c, .bool m, .slice B ys.length d])] [(B, d, ys), (A, c, xs)] :=
    ((((Mem.start w).addR ha).addR hb).new 26 #[.bool n, .slice A xs.length c, .bool m, .slice B ys.length d])
  have ox := ha.ok
  have oy := hb.ok
  clear ha hb
  rcases Bool.eq_false_or_eq_true (qright n xs m ys) with h | h
  case inr =>
    have HB := Lib.hid h
    unfold qtextR
    rw [h]
    clear h ox oy
    obtain ⟨v1, v2, v3, v4⟩ := (M.k (i := 0) rfl).four
    go_enter Try.func28, Try.ntmps28
    go_wp2_with fail
    refine (rqright_any (M.r (i := 1) rfl) (M.r (i := 0) rfl)).mono ?_
    rw [HB.out]
    rintro e z1 ⟨rfl, q⟩
    replace M := M.below q
    clear q v1 v2 v3 v4
    obtain ⟨v1, v2, v3, v4⟩ := (M.k (i := 0) rfl).four
    go_wp2
    exact bodyPost_ret (v := .tuple #[.string ⟨#[]⟩, .int .i64 2]) (by simp [results, Try.results28, go_sem]) rfl ⟨rfl, M.bel⟩
  have HB := Lib.hid h
  unfold qtextR
  rw [if_pos h]
  obtain ⟨h1, h2, h3, h4, h5, h6, h7⟩ := qright_iff.1 h
  have l1 := intS_lenQ ox h1
  have l2 := intS_lenQ oy h2
  have HT1 := Lib.hid (stext_ok h1)
  have HT2 := Lib.hid (stext_ok h2)
  have hI := (show (!m && decide (ys = [1])) = decide (ys = [1]) by rw [h5]; simp)
  clear h h1 h2 h3 h4 h5 h6 h7 ox oy
  generalize intS (sv n xs) = t1 at *
  generalize intS (sv m ys) = t2 at *
  by_cases hd : ys = [1]
  · have hI2 := hI.trans (decide_eq_true hd)
    rw [if_pos hd]
    have HI := Lib.hid hI2
    clear hI hI2 hd
    obtain ⟨v1, v2, v3, v4⟩ := (M.k (i := 0) rfl).four
    go_enter Try.func28, Try.ntmps28
    go_wp2_with fail
    refine (rqright_any (M.r (i := 1) rfl) (M.r (i := 0) rfl)).mono ?_
    rw [HB.out]
    rintro e z1 ⟨rfl, q⟩
    replace M := M.below q
    clear q v1 v2 v3 v4
    obtain ⟨v1, v2, v3, v4⟩ := (M.k (i := 0) rfl).four
    go_wp2_with fail
    refine (rstext_any _ A c _ _ (M.r (i := 1) rfl)).mono ?_
    rintro e z2 ⟨rfl, q⟩
    rw [HT1.out]
    replace M := M.below q
    clear q v1 v2 v3 v4
    obtain ⟨v1, v2, v3, v4⟩ := (M.k (i := 0) rfl).four
    go_wp2_with fail
    refine (one_any (M.r (i := 0) rfl)).mono ?_
    rw [HI.out]
    rintro e z3 ⟨rfl, q⟩
    replace M := M.below q
    go_wp2
    exact bodyPost_ret (v := .tuple #[.string ⟨t1.toArray⟩, .int .i64 0]) (by simp [results, Try.results28, go_sem]) rfl ⟨rfl, M.bel⟩
  · have hI2 := hI.trans (decide_eq_false hd)
    rw [if_neg hd]
    have HI := Lib.hid hI2
    clear hI hI2 hd
    obtain ⟨v1, v2, v3, v4⟩ := (M.k (i := 0) rfl).four
    go_enter Try.func28, Try.ntmps28
    go_wp2_with fail
    refine (rqright_any (M.r (i := 1) rfl) (M.r (i := 0) rfl)).mono ?_
    rw [HB.out]
    rintro e z1 ⟨rfl, q⟩
    replace M := M.below q
    clear q v1 v2 v3 v4
    obtain ⟨v1, v2, v3, v4⟩ := (M.k (i := 0) rfl).four
    go_wp2_with fail
    refine (rstext_any _ A c _ _ (M.r (i := 1) rfl)).mono ?_
    rintro e z2 ⟨rfl, q⟩
    rw [HT1.out]
    replace M := M.below q
    clear q v1 v2 v3 v4
    obtain ⟨v1, v2, v3, v4⟩ := (M.k (i := 0) rfl).four
    go_wp2_with fail
    refine (one_any (M.r (i := 0) rfl)).mono ?_
    rw [HI.out]
    rintro e z3 ⟨rfl, q⟩
    replace M := M.below q
    clear q v1 v2 v3 v4
    obtain ⟨v1, v2, v3, v4⟩ := (M.k (i := 0) rfl).four
    go_wp2_with fail
    refine (rstext_any _ B d _ _ (M.r (i := 0) rfl)).mono ?_
    rintro e z4 ⟨rfl, q⟩
    rw [HT2.out]
    replace M := M.below q
    go_wp2
    refine bodyPost_ret (v := .tuple #[.string (((⟨t1.toArray⟩ : ByteArray) ++ ⟨#[47]⟩) ++ ⟨t2.toArray⟩), .int .i64 0]) (by simp [results, Try.results28, go_sem]) rfl ⟨?_, M.bel⟩
    rw [cat47]
def sameB (n : Bool) (xs : List Nat) (m : Bool) (ys : List Nat) : Bool := (n == m) && decide (xs = ys)
set_option maxRecDepth 100000 in
set_option maxHeartbeats 1000000 in
theorem rqsame_any {n m n' m' : Bool} {A B A' B' : Option Addr} {c d c' d' : Nat} {xs ys xs' ys' : List Nat} {w : World} (ha : Rd w A c xs) (hb : Rd w B d ys) (ha' : Rd w A' c' xs') (hb' : Rd w B' d' ys')
    (l1 : xs.length ≤ 1000000) (l2 : ys.length ≤ 1000000) (l3 : xs'.length ≤ 1000000) (l4 : ys'.length ≤ 1000000) :
    Calls Try.prog 19 #[rv n A xs.length c m B ys.length d, rv n' A' xs'.length c' m' B' ys'.length d'] w fun e w' => e = .returned (.bool (sameB n xs n' xs' && sameB m ys m' ys')) ∧ Below w.heap.size w w' := by
  have M : Mem w ((w.alloc (.cells #[.bool n, .slice A xs.length c, .bool m, .slice B ys.length d] 26)).alloc (.cells #[.bool n', .slice A' xs'.length c', .bool m', .slice B' ys'.length d'] 26)) [(w.heap.size + 1, 26, #[.bool n', .slice A' xs'.length c', .bool m', .slice B' ys'.length d']), (w.heap.size, 26, #[.bool n, .slice A xs.length c, .bool m, .slice B ys.length d])] [(B', d', ys'), (A', c', xs'), (B, d, ys), (A, c, xs)] :=
    (((((((Mem.start w).addR ha).addR hb).addR ha').addR hb').new 26 #[.bool n, .slice A xs.length c, .bool m, .slice B ys.length d]).newAt (by simp) 26 #[.bool n', .slice A' xs'.length c', .bool m', .slice B' ys'.length d'])
  have ox := ha.ok
  have oy := hb.ok
  have ox' := ha'.ok
  have oy' := hb'.ok
  clear ha hb ha' hb'
  obtain ⟨v1, v2, v3, v4⟩ := (M.k (i := 1) rfl).four
  obtain ⟨v5, v6, v7, v8⟩ := (M.k (i := 0) rfl).four
  have hs1 : ((n == n') && decide (xs = xs')) = sameB n xs n' xs' := rfl
  have hs2 : ((m == m') && decide (ys = ys')) = sameB m ys m' ys' := rfl
  have HS1 := Lib.hid hs1
  have HS2 := Lib.hid hs2
  clear hs1 hs2 ox oy ox' oy'
  generalize sameB n xs n' xs' = b1 at *
  generalize sameB m ys m' ys' = b2 at *
  cases b1
  all_goals
    go_enter Try.func19, Try.ntmps19
    go_wp2_with fail
    refine (rssame_any _ _ A A' c c' _ _ _ (M.r (i := 3) rfl) (M.r (i := 1) rfl) l1 l3).mono ?_
    rw [HS1.out]
    rintro e w2 ⟨rfl, q⟩
    replace M := M.below q
    clear q v1 v2 v3 v4 v5 v6 v7 v8
    obtain ⟨v1, v2, v3, v4⟩ := (M.k (i := 1) rfl).four
    obtain ⟨v5, v6, v7, v8⟩ := (M.k (i := 0) rfl).four
  · go_wp2
    go_ret
    exact ⟨by simp, M.bel⟩
  · go_wp2_with fail
    refine (rssame_any _ _ B B' d d' _ _ _ (M.r (i := 2) rfl) (M.r (i := 0) rfl) l2 l4).mono ?_
    rw [HS2.out]
    rintro e w3 ⟨rfl, q⟩
    replace M := M.below q
    go_wp2
    go_ret
    exact ⟨by simp, M.bel⟩
theorem rqsame_self {n m : Bool} {A B A' B' : Option Addr} {c d c' d' : Nat} {xs ys : List Nat} {w : World} (ha : Rd w A c xs) (hb : Rd w B d ys) (ha' : Rd w A' c' xs) (hb' : Rd w B' d' ys) (l1 : xs.length ≤ 1000000) (l2 : ys.length ≤ 1000000) :
    Calls Try.prog 19 #[rv n A xs.length c m B ys.length d, rv n A' xs.length c' m B' ys.length d'] w fun e w' => e = .returned (.bool true) ∧ Below w.heap.size w w' :=
  (rqsame_any ha hb ha' hb' l1 l2 l1 l2).mono fun _ _ ⟨h1, h2⟩ => ⟨by rw [h1]; simp [sameB], h2⟩
set_option maxRecDepth 100000 in
set_option maxHeartbeats 2000000 in
theorem rqmake_any {n m : Bool} {A B : Option Addr} {c d : Nat} {xs ys : List Nat} {w : World} (ha : Rd w A c xs) (hb : Rd w B d ys) :
    Calls Try.prog 15 #[iv n A xs.length c, iv m B ys.length d] w fun e w' => RetQE w w' e (qmakeR n xs m ys) := by
  have M : Mem w (((w.alloc (.cells #[.bool n, .slice A xs.length c] 24)).alloc (.cells #[.bool m, .slice B ys.length d] 24)).alloc (.cells #[.bool false, .slice none 0 0, .bool false, .slice none 0 0] 26)) [(w.heap.size + 1 + 1, 26, #[.bool false, .slice none 0 0, .bool false, .slice none 0 0]), (w.heap.size + 1, 24, #[.bool m, .slice B ys.length d]), (w.heap.size, 24, #[.bool n, .slice A xs.length c])] [(B, d, ys), (A, c, xs)] :=
    ((((((Mem.start w).addR ha).addR hb).new 24 #[.bool n, .slice A xs.length c]).newAt (by simp) 24 #[.bool m, .slice B ys.length d]).newAt (by simp) 26 #[.bool false, .slice none 0 0, .bool false, .slice none 0 0])
  clear ha hb
  rcases Bool.eq_false_or_eq_true (sright n xs) with h1 | h1
  case inr =>
    have H1 := Lib.hid h1
    have HE : Hid (qmakeR n xs m ys = dbad 2) := by show _ = _; unfold qmakeR; rw [h1]; rfl
    rw [HE.out]
    clear h1
    obtain ⟨v1, v2, _, _⟩ := (M.k (i := 2) rfl).both
    obtain ⟨v3, v4, _, _⟩ := (M.k (i := 1) rfl).both
    go_enter Try.func15, Try.ntmps15
    go_wp2_with fail
    refine (srright_any _ A c _ _ (M.r (i := 1) rfl)).mono ?_
    rw [H1.out]
    rintro e z1 ⟨rfl, q⟩
    replace M := M.below q
    clear q v1 v2 v3 v4
    obtain ⟨v1, v2, _, _⟩ := (M.k (i := 2) rfl).both
    obtain ⟨v3, v4, _, _⟩ := (M.k (i := 1) rfl).both
    go_wp2_with ((with_reducible show wpList _ _ _ (Oper.mk none (Op.store _ _ _) _ _ _ _ :: _) _ _); refine wp_put (o := ⟨none, .store _ _ _, _, _, _, _⟩) _ _ (M.k (i := 0) rfl) rfl rfl rfl rfl info_rrat rfl rfl ?_; intro w4 b4 g4; replace M := M.rowAt (i := 0) rfl (by omega) (by simp <;> omega) rfl b4 g4; obtain ⟨f1, f2, f3, f4⟩ := (M.k (i := 0) rfl).four)
    exact bodyPost_ret (v := .tuple #[rv false none 0 0 false none 0 0, .int .i64 2]) (by simp [results, Try.results15, go_sem, f1, f2, f3, f4]) rfl ⟨⟨none, 0, none, 0, rfl, Rd.nil, Rd.nil⟩, M.bel⟩
  have H1 := Lib.hid h1
  rcases Bool.eq_false_or_eq_true (sright m ys) with h2 | h2
  case inr =>
    have H2 := Lib.hid h2
    have HE : Hid (qmakeR n xs m ys = dbad 2) := by show _ = _; unfold qmakeR; rw [h1, h2]; rfl
    rw [HE.out]
    clear h1 h2
    obtain ⟨v1, v2, _, _⟩ := (M.k (i := 2) rfl).both
    obtain ⟨v3, v4, _, _⟩ := (M.k (i := 1) rfl).both
    go_enter Try.func15, Try.ntmps15
    go_wp2_with fail
    refine (srright_any _ A c _ _ (M.r (i := 1) rfl)).mono ?_
    rw [H1.out]
    rintro e z1 ⟨rfl, q⟩
    replace M := M.below q
    clear q v1 v2 v3 v4
    obtain ⟨v1, v2, _, _⟩ := (M.k (i := 2) rfl).both
    obtain ⟨v3, v4, _, _⟩ := (M.k (i := 1) rfl).both
    go_wp2_with fail
    refine (srright_any _ B d _ _ (M.r (i := 0) rfl)).mono ?_
    rw [H2.out]
    rintro e z2 ⟨rfl, q⟩
    replace M := M.below q
    clear q v1 v2 v3 v4
    obtain ⟨v1, v2, _, _⟩ := (M.k (i := 2) rfl).both
    obtain ⟨v3, v4, _, _⟩ := (M.k (i := 1) rfl).both
    go_wp2_with ((with_reducible show wpList _ _ _ (Oper.mk none (Op.store _ _ _) _ _ _ _ :: _) _ _); refine wp_put (o := ⟨none, .store _ _ _, _, _, _, _⟩) _ _ (M.k (i := 0) rfl) rfl rfl rfl rfl info_rrat rfl rfl ?_; intro w4 b4 g4; replace M := M.rowAt (i := 0) rfl (by omega) (by simp <;> omega) rfl b4 g4; obtain ⟨f1, f2, f3, f4⟩ := (M.k (i := 0) rfl).four)
    exact bodyPost_ret (v := .tuple #[rv false none 0 0 false none 0 0, .int .i64 2]) (by simp [results, Try.results15, go_sem, f1, f2, f3, f4]) rfl ⟨⟨none, 0, none, 0, rfl, Rd.nil, Rd.nil⟩, M.bel⟩
  have H2 := Lib.hid h2
  by_cases hy : ys = []
  · subst hy
    have HE : Hid (qmakeR n xs m [] = dbad 2) := by show _ = _; unfold qmakeR; simp
    rw [HE.out]
    clear h1 h2
    obtain ⟨v1, v2, _, _⟩ := (M.k (i := 2) rfl).both
    obtain ⟨v3, v4, _, _⟩ := (M.k (i := 1) rfl).both
    go_enter Try.func15, Try.ntmps15
    go_wp2_with fail
    refine (srright_any _ A c _ _ (M.r (i := 1) rfl)).mono ?_
    rw [H1.out]
    rintro e z1 ⟨rfl, q⟩
    replace M := M.below q
    clear q v1 v2 v3 v4
    obtain ⟨v1, v2, _, _⟩ := (M.k (i := 2) rfl).both
    obtain ⟨v3, v4, _, _⟩ := (M.k (i := 1) rfl).both
    go_wp2_with fail
    refine (srright_any _ B d _ _ (M.r (i := 0) rfl)).mono ?_
    rw [H2.out]
    rintro e z2 ⟨rfl, q⟩
    replace M := M.below q
    clear q v1 v2 v3 v4
    obtain ⟨v1, v2, _, _⟩ := (M.k (i := 2) rfl).both
    obtain ⟨v3, v4, _, _⟩ := (M.k (i := 1) rfl).both
    go_wp2_with ((with_reducible show wpList _ _ _ (Oper.mk none (Op.store _ _ _) _ _ _ _ :: _) _ _); refine wp_put (o := ⟨none, .store _ _ _, _, _, _, _⟩) _ _ (M.k (i := 0) rfl) rfl rfl rfl rfl info_rrat rfl rfl ?_; intro w4 b4 g4; replace M := M.rowAt (i := 0) rfl (by omega) (by simp <;> omega) rfl b4 g4; obtain ⟨f1, f2, f3, f4⟩ := (M.k (i := 0) rfl).four)
    exact bodyPost_ret (v := .tuple #[rv false none 0 0 false none 0 0, .int .i64 2]) (by simp [results, Try.results15, go_sem, f1, f2, f3, f4]) rfl ⟨⟨none, 0, none, 0, rfl, Rd.nil, Rd.nil⟩, M.bel⟩
  have d3 : ((ys.length : Int) == 0) = false := by simp; exact hy
  have NE := Lib.hid hy
  clear h1 h2 hy
  generalize hq : qmakeR n xs m ys = r
  have HQ := Lib.hid hq
  clear hq
  obtain ⟨r1, r2, r3, r4, r5⟩ := r
  obtain ⟨v1, v2, _, _⟩ := (M.k (i := 2) rfl).both
  obtain ⟨v3, v4, _, _⟩ := (M.k (i := 1) rfl).both
  go_enter Try.func15, Try.ntmps15
  go_wp2_with fail
  refine (srright_any _ A c _ _ (M.r (i := 1) rfl)).mono ?_
  rw [H1.out]
  rintro e z1 ⟨rfl, q⟩
  replace M := M.below q
  clear q v1 v2 v3 v4
  obtain ⟨v1, v2, _, _⟩ := (M.k (i := 2) rfl).both
  obtain ⟨v3, v4, _, _⟩ := (M.k (i := 1) rfl).both
  go_wp2_with fail
  refine (srright_any _ B d _ _ (M.r (i := 0) rfl)).mono ?_
  rw [H2.out]
  rintro e z2 ⟨rfl, q⟩
  replace M := M.below q
  clear q v1 v2 v3 v4
  obtain ⟨v1, v2, _, _⟩ := (M.k (i := 2) rfl).both
  obtain ⟨v3, v4, _, _⟩ := (M.k (i := 1) rfl).both
  go_wp2_with fail
  refine (rqmade_use H1.out H2.out NE.out HQ.out (M.r (i := 1) rfl) (M.r (i := 0) rfl)).mono ?_
  rintro e w2 ⟨⟨A2, c2, B2, d2, rfl, h, k⟩, q⟩
  replace M := ((M.below q).addR k).addR h
  clear q h k v1 v2 v3 v4
  go_wp2_with ((with_reducible show wpList _ _ _ (Oper.mk none (Op.store _ _ _) _ _ _ _ :: _) _ _); refine wp_put (o := ⟨none, .store _ _ _, _, _, _, _⟩) _ _ (M.k (i := 0) rfl) rfl rfl rfl rfl info_rrat rfl rfl ?_; intro w4 b4 g4; replace M := M.rowAt (i := 0) rfl (by omega) (by simp <;> omega) rfl b4 g4; obtain ⟨f1, f2, f3, f4⟩ := (M.k (i := 0) rfl).four)
  exact bodyPost_ret (v := .tuple #[rv r1 A2 r2.length c2 r3 B2 r4.length d2, .int .i64 r5]) (by simp [results, Try.results15, go_sem, f1, f2, f3, f4]) rfl ⟨⟨A2, c2, B2, d2, rfl, M.r (i := 0) rfl, M.r (i := 1) rfl⟩, M.bel⟩
end Go.Proofs.Ytdhikpfppbcjkaa

/-
  The walks of the laws RatioSums.
-/
import Derived.Test.YtdhikpfppbcjkaaQi
set_option linter.unusedSimpArgs false
set_option linter.unusedVariables false
namespace Go.Proofs.Ytdhikpfppbcjkaa
open Go.RowKit Num

theorem qnegR_len (n : Bool) (xs : List Nat) (m : Bool) (ys : List Nat) (ox : Ok xs) (oy : Ok ys) : (qnegR n xs m ys).2.1.length ≤ 64 ∧ (qnegR n xs m ys).2.2.2.1.length ≤ 64 := by
  rcases Bool.eq_false_or_eq_true (qright n xs m ys) with h | h
  · obtain ⟨nn, _, e2, _⟩ := neg_facts ox oy h
    obtain ⟨_, _, h3, h4, _, _, _⟩ := qright_iff.1 h
    rw [e2]
    exact ⟨h3, h4⟩
  · unfold qnegR
    rw [h]
    exact ⟨Nat.zero_le _, Nat.zero_le _⟩
set_option maxRecDepth 100000 in
set_option maxHeartbeats 8000000 in
theorem ratioSums_use (w : World) (n : Bool) (A : Option Addr) (c : Nat) (xs : List Nat) (ha : Rd w A c xs) (m : Bool) (B : Option Addr) (d : Nat) (ys : List Nat) (hb : Rd w B d ys) (n' : Bool) (A' : Option Addr) (c' : Nat) (xs' : List Nat) (ha' : Rd w A' c' xs') (m' : Bool) (B' : Option Addr) (d' : Nat) (ys' : List Nat) (hb' : Rd w B' d' ys') :
    Calls Try.prog 8 #[rv n A xs.length c m B ys.length d, rv n' A' xs'.length c' m' B' ys'.length d'] w fun e w' => e = .returned (.bool true) ∧ Below w.heap.size w w' := by
  have M : Mem w ((w.alloc (.cells #[.bool n, .slice A xs.length c, .bool m, .slice B ys.length d] 26)).alloc (.cells #[.bool n', .slice A' xs'.length c', .bool m', .slice B' ys'.length d'] 26)) [(w.heap.size + 1, 26, #[.bool n', .slice A' xs'.length c', .bool m', .slice B' ys'.length d']), (w.heap.size, 26, #[.bool n, .slice A xs.length c, .bool m, .slice B ys.length d])] [(B', d', ys'), (A', c', xs'), (B, d, ys), (A, c, xs)] :=
    (((((((Mem.start w).addR ha).addR hb).addR ha').addR hb').new 26 #[.bool n, .slice A xs.length c, .bool m, .slice B ys.length d]).newAt (by simp) 26 #[.bool n', .slice A' xs'.length c', .bool m', .slice B' ys'.length d'])
  have ox := ha.ok
  have oy := hb.ok
  have ox' := ha'.ok
  have oy' := hb'.ok
  clear ha hb ha' hb'
  by_cases hf : xs.length ≤ 8 ∧ ys.length ≤ 8 ∧ xs'.length ≤ 8 ∧ ys'.length ≤ 8
  case neg =>
    have HF : Hid (decide (xs.length ≤ 8 ∧ ys.length ≤ 8 ∧ xs'.length ≤ 8 ∧ ys'.length ≤ 8) = false) := decide_eq_false hf
    clear hf
    go_enter Try.func8, Try.ntmps8
    go_wp2_with fail
    refine (qalive_any _).mono ?_
    rintro e y1 ⟨rfl, q⟩
    replace M := M.below q
    clear q
    obtain ⟨v1, v2, v3, v4⟩ := (M.k (i := 1) rfl).four
    obtain ⟨v5, v6, v7, v8⟩ := (M.k (i := 0) rfl).four
    go_wp2_with fail
    refine (few4_2 rfl).mono ?_
    rw [HF.out]
    rintro e y2 ⟨rfl, q⟩
    replace M := M.below q
    clear q v1 v2 v3 v4 v5 v6 v7 v8
    go_wp2
    go_ret
    exact ⟨rfl, M.bel⟩
  have HF : Hid (decide (xs.length ≤ 8 ∧ ys.length ≤ 8 ∧ xs'.length ≤ 8 ∧ ys'.length ≤ 8) = true) := decide_eq_true hf
  obtain ⟨hf1, hf2, hf3, hf4⟩ := hf
  have hl := qaddR_len n xs m ys n' xs' m' ys'
  generalize hr : qaddR n xs m ys n' xs' m' ys' = r at hl
  obtain ⟨p1, p2, p3, p4, p5⟩ := r
  have Hp := Lib.hid hr
  have Lpa : Hid (p2.length ≤ 1000000) := Nat.le_trans hl.1 (by decide)
  have Lpb : Hid (p4.length ≤ 1000000) := Nat.le_trans hl.2 (by decide)
  clear hr hl
  have hl := qnegR_len n xs m ys ox oy
  generalize hr : qnegR n xs m ys = r at hl
  obtain ⟨t1, t2, t3, t4, t5⟩ := r
  have Ht := Lib.hid hr
  have Lta : Hid (t2.length ≤ 1000000) := Nat.le_trans hl.1 (by decide)
  have Ltb : Hid (t4.length ≤ 1000000) := Nat.le_trans hl.2 (by decide)
  clear hr hl
  obtain ⟨k1, k2, hk⟩ : ∃ k1 k2, qcmpR n xs m ys n' xs' m' ys' = (k1, k2) := ⟨_, _, rfl⟩
  have HK := Lib.hid hk
  clear hk
  clear ox oy ox' oy'
  go_enter Try.func8, Try.ntmps8
  go_wp2_with fail
  refine (qalive_any _).mono ?_
  rintro e y1 ⟨rfl, q⟩
  replace M := M.below q
  clear q
  obtain ⟨v1, v2, v3, v4⟩ := (M.k (i := 1) rfl).four
  obtain ⟨v5, v6, v7, v8⟩ := (M.k (i := 0) rfl).four
  go_wp2_with fail
  refine (few4_2 rfl).mono ?_
  rw [HF.out]
  rintro e y2 ⟨rfl, q⟩
  replace M := M.below q
  clear q v1 v2 v3 v4 v5 v6 v7 v8
  go_upto_region 5 with fail
  go_cut [5, 6] (fun s5 s6 wx => ∃ (g5 : Nat) (A5 B5 : Option Addr) (c5 d5 : Nat), s5 = .pointer (some ⟨g5, 0, none⟩) ∧ s6 = .int .i64 p5 ∧ Mem w wx [(g5, 31, #[.bool p1, .slice A5 p2.length c5, .bool p3, .slice B5 p4.length d5]), (w.heap.size + 1, 26, #[.bool n', .slice A' xs'.length c', .bool m', .slice B' ys'.length d']), (w.heap.size, 26, #[.bool n, .slice A xs.length c, .bool m, .slice B ys.length d])] [(A5, c5, p2), (B5, d5, p4), (B', d', ys'), (A', c', xs'), (B, d, ys), (A, c, xs)])
  case first =>
    refine region_st (n := 11) (frame := ?frame1) (fun j => [.val (.fix (.agg #[.bool n, .slice A xs.length c, .bool m, .slice B ys.length d])), .val (.fix (rv n A xs.length c m B ys.length d)), .val (.fix (.agg #[.bool n', .slice A' xs'.length c', .bool m', .slice B' ys'.length d'])), .val (.fix (rv n' A' xs'.length c' m' B' ys'.length d')), .val (.re (p1, p2, p3, p4, p5)), .val (.re (p1, p2, p3, p4, p5)), .val (.rat (p1) (p2) (p3) (p4)), .val (.fix (.int .i64 p5)), .cell 9 31 #[.bool false, .slice none 0 0, .bool false, .slice none 0 0] (.rat (p1) (p2) (p3) (p4)), .none, .val (.fix (.int .i64 p5))].getD j .none) [] (by kernel_rfl) (by kernel_rfl) (by kernel_rfl) rfl M (fun _ h => by cases h) (fun _ h => by cases h) ?_ ?_ ?_
    case refine_1 =>
      intro s
      simp only [fr, Act.put, List.append_eq, List.cons_append, List.nil_append, List.setIfInBounds_toArray, List.set_cons_zero, List.set_cons_succ, Nat.reduceAdd]
      rfl
    case refine_2 =>
      refine Steps.cons 0 (j := 1) rfl ?_ (Steps.cons 1 (j := 2) rfl ?_ (Steps.cons 2 (j := 3) rfl ?_ (Steps.cons 3 (j := 4) rfl ?_ (Steps.cons 4 (j := 5) rfl ?_ (Steps.cons 5 (j := 6) rfl ?_ (Steps.cons 6 (j := 7) rfl ?_ (Steps.cons 7 (j := 8) rfl ?_ (Steps.cons 8 (j := 9) rfl ?_ (Steps.cons 9 (j := 10) rfl ?_ (Steps.cons 10 (j := 11) rfl ?_ Steps.nil))))))))))
      · intro L s w9 hN hU hi hS K hK
        dsimp only at hK ⊢
        simp only [Act.put, List.setIfInBounds_toArray, List.set_cons_zero, List.set_cons_succ] at hK
        obtain ⟨u1, u2, u3, u4⟩ := (hS.mem.k (i := 1) rfl).four
        go_simp
        exact hK.out _ _ (hS.val rfl rfl (Below.refl _ _) rfl)
      · intro L s w9 hN hU hi hS K hK
        dsimp only at hK ⊢
        simp only [Act.put, List.setIfInBounds_toArray, List.set_cons_zero, List.set_cons_succ] at hK
        have e0 : s 0 = .agg #[.bool n, .slice A xs.length c, .bool m, .slice B ys.length d] := hS.val_at 0 rfl (by decide) (hN.out 0 rfl)
        simp only [e0] at hK ⊢
        go_simp
        go_at_call 17
        refine (theirs4_any _ _ _ _ _ _ _ _ _).mono ?_
        rintro e9 w10 ⟨rfl, q⟩
        exact hK.out _ _ (hS.val rfl rfl q rfl)
      · intro L s w9 hN hU hi hS K hK
        dsimp only at hK ⊢
        simp only [Act.put, List.setIfInBounds_toArray, List.set_cons_zero, List.set_cons_succ] at hK
        obtain ⟨u1, u2, u3, u4⟩ := (hS.mem.k (i := 0) rfl).four
        go_simp
        exact hK.out _ _ (hS.val rfl rfl (Below.refl _ _) rfl)
      · intro L s w9 hN hU hi hS K hK
        dsimp only at hK ⊢
        simp only [Act.put, List.setIfInBounds_toArray, List.set_cons_zero, List.set_cons_succ] at hK
        have e2 : s 2 = .agg #[.bool n', .slice A' xs'.length c', .bool m', .slice B' ys'.length d'] := hS.val_at 2 rfl (by decide) (hN.out 2 rfl)
        simp only [e2] at hK ⊢
        go_simp
        go_at_call 17
        refine (theirs4_any _ _ _ _ _ _ _ _ _).mono ?_
        rintro e9 w10 ⟨rfl, q⟩
        exact hK.out _ _ (hS.val rfl rfl q rfl)
      · intro L s w9 hN hU hi hS K hK
        dsimp only at hK ⊢
        simp only [Act.put, List.setIfInBounds_toArray, List.set_cons_zero, List.set_cons_succ] at hK
        have e1 : s 1 = rv n A xs.length c m B ys.length d := hS.val_at 1 rfl (by decide) (hN.out 1 rfl)
        simp only [e1] at hK ⊢
        have e3 : s 3 = rv n' A' xs'.length c' m' B' ys'.length d' := hS.val_at 3 rfl (by decide) (hN.out 3 rfl)
        simp only [e3] at hK ⊢
        go_simp
        go_at_call 35
        refine (qadd_eq Hp.out (hS.mem.r (i := 3) rfl) (hS.mem.r (i := 2) rfl) (hS.mem.r (i := 1) rfl) (hS.mem.r (i := 0) rfl)).mono ?_
        rintro e9 w10 ⟨⟨A0, c0, B0, d0, rfl, h0, k0⟩, q⟩
        exact hK.out _ _ (hS.val rfl rfl q ⟨A0, c0, B0, d0, rfl, h0, k0⟩)
      · intro L s w9 hN hU hi hS K hK
        dsimp only at hK ⊢
        simp only [Act.put, List.setIfInBounds_toArray, List.set_cons_zero, List.set_cons_succ] at hK
        obtain ⟨A4, c4, B4, d4, e4, h4, k4⟩ := hS.val_at 4 rfl (by decide) (hN.out 4 rfl)
        simp only [e4] at hK ⊢
        go_simp
        exact hK.out _ _ (hS.val rfl rfl (Below.refl _ _) ⟨A4, c4, B4, d4, rfl, h4, k4⟩)
      · intro L s w9 hN hU hi hS K hK
        dsimp only at hK ⊢
        simp only [Act.put, List.setIfInBounds_toArray, List.set_cons_zero, List.set_cons_succ] at hK
        obtain ⟨A5, c5, B5, d5, e5, h5, k5⟩ := hS.val_at 5 rfl (by decide) (hN.out 5 rfl)
        simp only [e5] at hK ⊢
        go_simp
        exact hK.out _ _ (hS.val rfl rfl (Below.refl _ _) ⟨A5, c5, B5, d5, rfl, h5, k5⟩)
      · intro L s w9 hN hU hi hS K hK
        dsimp only at hK ⊢
        simp only [Act.put, List.setIfInBounds_toArray, List.set_cons_zero, List.set_cons_succ] at hK
        obtain ⟨A5, c5, B5, d5, e5, h5, k5⟩ := hS.val_at 5 rfl (by decide) (hN.out 5 rfl)
        simp only [e5] at hK ⊢
        go_simp
        exact hK.out _ _ (hS.val rfl rfl (Below.refl _ _) rfl)
      · intro L s w9 hN hU hi hS K hK
        dsimp only at hK ⊢
        simp only [Act.put, List.setIfInBounds_toArray, List.set_cons_zero, List.set_cons_succ] at hK
        go_simp
        exact hK.out _ _ (hS.new rfl rfl hi.out (fun _ => hU.out 9 _ rfl rfl) rfl)
      · intro L s w9 hN hU hi hS K hK
        dsimp only at hK ⊢
        simp only [Act.put, List.setIfInBounds_toArray, List.set_cons_zero, List.set_cons_succ] at hK
        obtain ⟨A6, c6, B6, d6, e6, h6, k6⟩ := hS.val_at 6 rfl (by decide) (hN.out 6 rfl)
        simp only [e6] at hK ⊢
        obtain ⟨g9, cs9, e9, l9, b9, n9, z9, _⟩ := hS.cell_at 8 rfl (by decide) (hN.out 8 rfl)
        obtain rfl := z9 hi.out
        simp only [e9] at hK ⊢
        refine ite_of rfl ?_
        refine wp_store_row _ _ _ rfl g9 _ rfl rfl _ _ b9 info_rat rfl (by rw [← Array.all_toList]; rfl) ?_
        simp only [Act.put]
        exact hK.out undef _ (hS.fill (u := undef) (c := .rat (p1) (p2) (p3) (p4)) rfl rfl (by decide) rfl (hN.out 8 rfl) hi.out e9 (setRow_grown _ _ _) (b9.row _) rfl ⟨A6, c6, B6, d6, rfl, h6, k6⟩)
      · intro L s w9 hN hU hi hS K hK
        dsimp only at hK ⊢
        simp only [Act.put, List.setIfInBounds_toArray, List.set_cons_zero, List.set_cons_succ] at hK
        have e7 : s 7 = .int .i64 p5 := hS.val_at 7 rfl (by decide) (hN.out 7 rfl)
        simp only [e7] at hK ⊢
        go_simp
        exact hK.out _ _ (hS.val rfl rfl (Below.refl _ _) rfl)
    intro L s w9 hall hS
    obtain ⟨g8, cs8, e8, l8, b8, n8, _, z8⟩ := hS.cell_at 8 rfl (by decide) (hall 8 (by decide))
    obtain ⟨A8, c8, B8, d8, rfl, h8, k8⟩ := z8 (hall 9 (by decide))
    rw [e8]
    have e10 := hS.val_at 10 rfl (by decide) (hall 10 (by decide))
    go_wp2_with fail
    go_meet
    exact ⟨_, A8, B8, c8, d8, rfl, e10, ((hS.mem.addR k8).addR h8).addK b8⟩
  case rest =>
    clear M
    obtain ⟨g5, A5, B5, c5, d5, rfl, rfl, M⟩ := hcut
    obtain ⟨v1, v2, v3, v4⟩ := (M.k (i := 2) rfl).four
    obtain ⟨v5, v6, v7, v8⟩ := (M.k (i := 1) rfl).four
    go_wp2_with fail
    refine (rqadd_any (M.r (i := 5) rfl) (M.r (i := 4) rfl) (M.r (i := 3) rfl) (M.r (i := 2) rfl)).mono ?_
    rw [Hp.out]
    rintro e w7 ⟨⟨A7, c7, B7, d7, rfl, h, k⟩, q⟩
    replace M := (((M.below q).addR k).addR h).new 26 #[.bool p1, .slice A7 p2.length c7, .bool p3, .slice B7 p4.length d7]
    clear q h k v1 v2 v3 v4 v5 v6 v7 v8
    obtain ⟨v1, v2, v3, v4⟩ := (M.k (i := 3) rfl).four
    go_wp2_with fail
    refine (theirs4_any _ _ _ _ _ _ _ _ _).mono ?_
    rintro e y3 ⟨rfl, q⟩
    replace M := M.below q
    clear q v1 v2 v3 v4
    go_wp2_with fail
    refine (qneg_any (M.r (i := 7) rfl) (M.r (i := 6) rfl)).mono ?_
    rw [Ht.out]
    rintro e w9 ⟨⟨A9, c9, B9, d9, rfl, h, k⟩, q⟩
    replace M := (((M.below q).addR k).addR h).new 31 #[.bool t1, .slice A9 t2.length c9, .bool t3, .slice B9 t4.length d9]
    clear q h k
    obtain ⟨v1, v2, v3, v4⟩ := (M.k (i := 4) rfl).four
    go_wp2_with fail
    refine (rqneg_any (M.r (i := 9) rfl) (M.r (i := 8) rfl)).mono ?_
    rw [Ht.out]
    rintro e w11 ⟨⟨A11, c11, B11, d11, rfl, h, k⟩, q⟩
    replace M := (((M.below q).addR k).addR h).new 26 #[.bool t1, .slice A11 t2.length c11, .bool t3, .slice B11 t4.length d11]
    clear q h k v1 v2 v3 v4
    go_upto_region 9 with fail
    generalize hw7 : w7.heap.size = g7 at *
    generalize hw9 : w9.heap.size = g9 at *
    generalize hw11 : w11.heap.size = g11 at *
    generalize w11.alloc (.cells #[.bool t1, .slice A11 t2.length c11, .bool t3, .slice B11 t4.length d11] 26) = W at *
    go_cut [13, 14] (fun s13 s14 wx => s13 = .int .i64 k1 ∧ s14 = .int .i64 k2 ∧ Mem w wx [(g11, 26, #[.bool t1, .slice A11 t2.length c11, .bool t3, .slice B11 t4.length d11]), (g9, 31, #[.bool t1, .slice A9 t2.length c9, .bool t3, .slice B9 t4.length d9]), (g7, 26, #[.bool p1, .slice A7 p2.length c7, .bool p3, .slice B7 p4.length d7]), (g5, 31, #[.bool p1, .slice A5 p2.length c5, .bool p3, .slice B5 p4.length d5]), (w.heap.size + 1, 26, #[.bool n', .slice A' xs'.length c', .bool m', .slice B' ys'.length d']), (w.heap.size, 26, #[.bool n, .slice A xs.length c, .bool m, .slice B ys.length d])] [(A11, c11, t2), (B11, d11, t4), (A9, c9, t2), (B9, d9, t4), (A7, c7, p2), (B7, d7, p4), (A5, c5, p2), (B5, d5, p4), (B', d', ys'), (A', c', xs'), (B, d, ys), (A, c, xs)])
    case first =>
      refine region_st (n := 10) (frame := ?frame2) (fun j => [.val (.fix (.agg #[.bool n, .slice A xs.length c, .bool m, .slice B ys.length d])), .val (.fix (rv n A xs.length c m B ys.length d)), .val (.fix (.agg #[.bool n', .slice A' xs'.length c', .bool m', .slice B' ys'.length d'])), .val (.fix (rv n' A' xs'.length c' m' B' ys'.length d')), .val (.fix (.tuple #[.int .i64 k1, .int .i64 k2])), .val (.fix (.tuple #[.int .i64 k1, .int .i64 k2])), .val (.fix (.int .i64 k1)), .val (.fix (.int .i64 k2)), .val (.fix (.int .i64 k1)), .val (.fix (.int .i64 k2))].getD j .none) [] (by kernel_rfl) (by kernel_rfl) (by kernel_rfl) rfl M (fun _ h => by cases h) (fun _ h => by cases h) ?_ ?_ ?_
      case refine_1 =>
        intro s
        simp only [fr, Act.put, List.append_eq, List.cons_append, List.nil_append, List.setIfInBounds_toArray, List.set_cons_zero, List.set_cons_succ, Nat.reduceAdd]
        rfl
      case refine_2 =>
        refine Steps.cons 0 (j := 1) rfl ?_ (Steps.cons 1 (j := 2) rfl ?_ (Steps.cons 2 (j := 3) rfl ?_ (Steps.cons 3 (j := 4) rfl ?_ (Steps.cons 4 (j := 5) rfl ?_ (Steps.cons 5 (j := 6) rfl ?_ (Steps.cons 6 (j := 7) rfl ?_ (Steps.cons 7 (j := 8) rfl ?_ (Steps.cons 8 (j := 9) rfl ?_ (Steps.cons 9 (j := 10) rfl ?_ Steps.nil)))))))))
        · intro L s w9 hN hU hi hS K hK
          dsimp only at hK ⊢
          simp only [Act.put, List.setIfInBounds_toArray, List.set_cons_zero, List.set_cons_succ] at hK
          obtain ⟨u1, u2, u3, u4⟩ := (hS.mem.k (i := 5) rfl).four
          go_simp
          exact hK.out _ _ (hS.val rfl (noStore_of rfl) (Below.refl _ _) rfl)
        · intro L s w9 hN hU hi hS K hK
          dsimp only at hK ⊢
          simp only [Act.put, List.setIfInBounds_toArray, List.set_cons_zero, List.set_cons_succ] at hK
          have e0 : s 0 = .agg #[.bool n, .slice A xs.length c, .bool m, .slice B ys.length d] := hS.val_at 0 rfl (by decide) (hN.out 0 rfl)
          simp only [e0] at hK ⊢
          go_simp
          go_at_call 17
          refine (theirs4_any _ _ _ _ _ _ _ _ _).mono ?_
          rintro e9 w10 ⟨rfl, q⟩
          exact hK.out _ _ (hS.val rfl (noStore_of rfl) q rfl)
        · intro L s w9 hN hU hi hS K hK
          dsimp only at hK ⊢
          simp only [Act.put, List.setIfInBounds_toArray, List.set_cons_zero, List.set_cons_succ] at hK
          obtain ⟨u1, u2, u3, u4⟩ := (hS.mem.k (i := 4) rfl).four
          go_simp
          exact hK.out _ _ (hS.val rfl (noStore_of rfl) (Below.refl _ _) rfl)
        · intro L s w9 hN hU hi hS K hK
          dsimp only at hK ⊢
          simp only [Act.put, List.setIfInBounds_toArray, List.set_cons_zero, List.set_cons_succ] at hK
          have e2 : s 2 = .agg #[.bool n', .slice A' xs'.length c', .bool m', .slice B' ys'.length d'] := hS.val_at 2 rfl (by decide) (hN.out 2 rfl)
          simp only [e2] at hK ⊢
          go_simp
          go_at_call 17
          refine (theirs4_any _ _ _ _ _ _ _ _ _).mono ?_
          rintro e9 w10 ⟨rfl, q⟩
          exact hK.out _ _ (hS.val rfl (noStore_of rfl) q rfl)
        · intro L s w9 hN hU hi hS K hK
          dsimp only at hK ⊢
          simp only [Act.put, List.setIfInBounds_toArray, List.set_cons_zero, List.set_cons_succ] at hK
          have e1 : s 1 = rv n A xs.length c m B ys.length d := hS.val_at 1 rfl (by decide) (hN.out 1 rfl)
          simp only [e1] at hK ⊢
          have e3 : s 3 = rv n' A' xs'.length c' m' B' ys'.length d' := hS.val_at 3 rfl (by decide) (hN.out 3 rfl)
          simp only [e3] at hK ⊢
          go_simp
          go_at_call 38
          refine (qcmp_eq HK.out (hS.mem.r (i := 11) rfl) (hS.mem.r (i := 10) rfl) (hS.mem.r (i := 9) rfl) (hS.mem.r (i := 8) rfl)).mono ?_
          rintro e9 w10 ⟨rfl, q⟩
          exact hK.out _ _ (hS.val rfl (noStore_of rfl) q rfl)
        · intro L s w9 hN hU hi hS K hK
          dsimp only at hK ⊢
          simp only [Act.put, List.setIfInBounds_toArray, List.set_cons_zero, List.set_cons_succ] at hK
          have e4 : s 4 = .tuple #[.int .i64 k1, .int .i64 k2] := hS.val_at 4 rfl (by decide) (hN.out 4 rfl)
          simp only [e4] at hK ⊢
          go_simp
          exact hK.out _ _ (hS.val rfl (noStore_of rfl) (Below.refl _ _) rfl)
        · intro L s w9 hN hU hi hS K hK
          dsimp only at hK ⊢
          simp only [Act.put, List.setIfInBounds_toArray, List.set_cons_zero, List.set_cons_succ] at hK
          have e5 : s 5 = .tuple #[.int .i64 k1, .int .i64 k2] := hS.val_at 5 rfl (by decide) (hN.out 5 rfl)
          simp only [e5] at hK ⊢
          go_simp
          exact hK.out _ _ (hS.val rfl (noStore_of rfl) (Below.refl _ _) rfl)
        · intro L s w9 hN hU hi hS K hK
          dsimp only at hK ⊢
          simp only [Act.put, List.setIfInBounds_toArray, List.set_cons_zero, List.set_cons_succ] at hK
          have e5 : s 5 = .tuple #[.int .i64 k1, .int .i64 k2] := hS.val_at 5 rfl (by decide) (hN.out 5 rfl)
          simp only [e5] at hK ⊢
          go_simp
          exact hK.out _ _ (hS.val rfl (noStore_of rfl) (Below.refl _ _) rfl)
        · intro L s w9 hN hU hi hS K hK
          dsimp only at hK ⊢
          simp only [Act.put, List.setIfInBounds_toArray, List.set_cons_zero, List.set_cons_succ] at hK
          have e6 : s 6 = .int .i64 k1 := hS.val_at 6 rfl (by decide) (hN.out 6 rfl)
          simp only [e6] at hK ⊢
          go_simp
          exact hK.out _ _ (hS.val rfl (noStore_of rfl) (Below.refl _ _) rfl)
        · intro L s w9 hN hU hi hS K hK
          dsimp only at hK ⊢
          simp only [Act.put, List.setIfInBounds_toArray, List.set_cons_zero, List.set_cons_succ] at hK
          have e7 : s 7 = .int .i64 k2 := hS.val_at 7 rfl (by decide) (hN.out 7 rfl)
          simp only [e7] at hK ⊢
          go_simp
          exact hK.out _ _ (hS.val rfl (noStore_of rfl) (Below.refl _ _) rfl)
      intro L s w9 hall hS
      have e8 := hS.val_at 8 rfl (by decide) (hall 8 (by decide))
      have e9 := hS.val_at 9 rfl (by decide) (hall 9 (by decide))
      go_wp2_with fail
      go_meet
      exact ⟨e8, e9, hS.mem⟩
    case rest =>
      clear M
      obtain ⟨rfl, rfl, M⟩ := hcut
      obtain ⟨v1, v2, v3, v4⟩ := (M.k (i := 5) rfl).four
      obtain ⟨v5, v6, v7, v8⟩ := (M.k (i := 4) rfl).four
      go_wp2_with fail
      refine (rqcmp_any (M.r (i := 11) rfl) (M.r (i := 10) rfl) (M.r (i := 9) rfl) (M.r (i := 8) rfl)).mono ?_
      rw [HK.out]
      rintro e y9 ⟨rfl, q⟩
      replace M := M.below q
      clear q v1 v2 v3 v4 v5 v6 v7 v8
      go_upto_region 11 with fail
      refine region_st (n := 31) (frame := ?frame3) (fun j => [.val (.fix (.agg #[.bool p1, .slice A5 p2.length c5, .bool p3, .slice B5 p4.length d5])), .val (.fix (rv p1 A5 p2.length c5 p3 B5 p4.length d5)), .val (.fix (.agg #[.bool p1, .slice A7 p2.length c7, .bool p3, .slice B7 p4.length d7])), .val (.fix (.bool true)), .val (.fix (.bool true)), .val (.fix (.int .i64 p5)), .val (.fix (.int .i64 p5)), .val (.fix (.bool true)), .val (.fix (.bool true)), .val (.fix (.bool true)), .val (.fix (.agg #[.bool t1, .slice A9 t2.length c9, .bool t3, .slice B9 t4.length d9])), .val (.fix (rv t1 A9 t2.length c9 t3 B9 t4.length d9)), .val (.fix (.agg #[.bool t1, .slice A11 t2.length c11, .bool t3, .slice B11 t4.length d11])), .val (.fix (.bool true)), .val (.fix (.bool true)), .val (.fix (.bool true)), .val (.fix (.int .i64 t5)), .val (.fix (.int .i64 t5)), .val (.fix (.bool true)), .val (.fix (.bool true)), .val (.fix (.bool true)), .val (.fix (.int .i64 k1)), .val (.fix (.int .i64 k1)), .val (.fix (.bool true)), .val (.fix (.bool true)), .val (.fix (.bool true)), .val (.fix (.int .i64 k2)), .val (.fix (.int .i64 k2)), .val (.fix (.bool true)), .val (.fix (.bool true)), .val (.fix (.bool true))].getD j .none) [] (by kernel_rfl) (by kernel_rfl) (by kernel_rfl) rfl M (fun _ h => by cases h) (fun _ h => by cases h) ?_ ?_ ?_
      case refine_1 =>
        intro s
        simp only [fr, Act.put, List.append_eq, List.cons_append, List.nil_append, List.setIfInBounds_toArray, List.set_cons_zero, List.set_cons_succ, Nat.reduceAdd]
        rfl
      case refine_2 =>
        refine Steps.cons 0 (j := 1) rfl ?_ (Steps.cons 1 (j := 2) rfl ?_ (Steps.cons 2 (j := 3) rfl ?_ (Steps.cons 3 (j := 4) rfl ?_ (Steps.cons 4 (j := 5) rfl ?_ (Steps.cons 5 (j := 6) rfl ?_ (Steps.cons 6 (j := 7) rfl ?_ (Steps.cons 7 (j := 8) rfl ?_ (Steps.cons 8 (j := 9) rfl ?_ (Steps.cons 9 (j := 10) rfl ?_ (Steps.cons 10 (j := 11) rfl ?_ (Steps.cons 11 (j := 12) rfl ?_ (Steps.cons 12 (j := 13) rfl ?_ (Steps.cons 13 (j := 14) rfl ?_ (Steps.cons 14 (j := 15) rfl ?_ (Steps.cons 15 (j := 16) rfl ?_ (Steps.cons 16 (j := 17) rfl ?_ (Steps.cons 17 (j := 18) rfl ?_ (Steps.cons 18 (j := 19) rfl ?_ (Steps.cons 19 (j := 20) rfl ?_ (Steps.cons 20 (j := 21) rfl ?_ (Steps.cons 21 (j := 22) rfl ?_ (Steps.cons 22 (j := 23) rfl ?_ (Steps.cons 23 (j := 24) rfl ?_ (Steps.cons 24 (j := 25) rfl ?_ (Steps.cons 25 (j := 26) rfl ?_ (Steps.cons 26 (j := 27) rfl ?_ (Steps.cons 27 (j := 28) rfl ?_ (Steps.cons 28 (j := 29) rfl ?_ (Steps.cons 29 (j := 30) rfl ?_ (Steps.cons 30 (j := 31) rfl ?_ Steps.nil))))))))))))))))))))))))))))))
        · intro L s w9 hN hU hi hS K hK
          dsimp only at hK ⊢
          simp only [Act.put, List.setIfInBounds_toArray, List.set_cons_zero, List.set_cons_succ] at hK
          obtain ⟨u1, u2, u3, u4⟩ := (hS.mem.k (i := 3) rfl).four
          go_simp
          exact hK.out _ _ (hS.val rfl (noStore_of rfl) (Below.refl _ _) rfl)
        · intro L s w9 hN hU hi hS K hK
          dsimp only at hK ⊢
          simp only [Act.put, List.setIfInBounds_toArray, List.set_cons_zero, List.set_cons_succ] at hK
          have e0 : s 0 = .agg #[.bool p1, .slice A5 p2.length c5, .bool p3, .slice B5 p4.length d5] := hS.val_at 0 rfl (by decide) (hN.out 0 rfl)
          simp only [e0] at hK ⊢
          go_simp
          go_at_call 20
          refine (ours4_any _ _ _ _ _ _ _ _ _).mono ?_
          rintro e9 w10 ⟨rfl, q⟩
          exact hK.out _ _ (hS.val rfl (noStore_of rfl) q rfl)
        · intro L s w9 hN hU hi hS K hK
          dsimp only at hK ⊢
          simp only [Act.put, List.setIfInBounds_toArray, List.set_cons_zero, List.set_cons_succ] at hK
          obtain ⟨u1, u2, u3, u4⟩ := (hS.mem.k (i := 2) rfl).four
          go_simp
          exact hK.out _ _ (hS.val rfl (noStore_of rfl) (Below.refl _ _) rfl)
        · intro L s w9 hN hU hi hS K hK
          dsimp only at hK ⊢
          simp only [Act.put, List.setIfInBounds_toArray, List.set_cons_zero, List.set_cons_succ] at hK
          have e1 : s 1 = rv p1 A5 p2.length c5 p3 B5 p4.length d5 := hS.val_at 1 rfl (by decide) (hN.out 1 rfl)
          simp only [e1] at hK ⊢
          have e2 : s 2 = .agg #[.bool p1, .slice A7 p2.length c7, .bool p3, .slice B7 p4.length d7] := hS.val_at 2 rfl (by decide) (hN.out 2 rfl)
          simp only [e2] at hK ⊢
          go_simp
          go_at_call 19
          refine (rqsame_self (hS.mem.r (i := 6) rfl) (hS.mem.r (i := 7) rfl) (hS.mem.r (i := 4) rfl) (hS.mem.r (i := 5) rfl) Lpa.out Lpb.out).mono ?_
          rintro e9 w10 ⟨rfl, q⟩
          exact hK.out _ _ (hS.val rfl (noStore_of rfl) q rfl)
        · intro L s w9 hN hU hi hS K hK
          dsimp only at hK ⊢
          simp only [Act.put, List.setIfInBounds_toArray, List.set_cons_zero, List.set_cons_succ] at hK
          have e3 : s 3 = .bool true := hS.val_at 3 rfl (by decide) (hN.out 3 rfl)
          simp only [e3] at hK ⊢
          go_simp
          exact hK.out _ _ (hS.val rfl (noStore_of rfl) (Below.refl _ _) rfl)
        · intro L s w9 hN hU hi hS K hK
          dsimp only at hK ⊢
          simp only [Act.put, List.setIfInBounds_toArray, List.set_cons_zero, List.set_cons_succ] at hK
          have e4 : s 4 = .bool true := hS.val_at 4 rfl (by decide) (hN.out 4 rfl)
          simp only [e4] at hK ⊢
          go_simp
          exact hK.out _ _ (hS.val rfl (noStore_of rfl) (Below.refl _ _) rfl)
        · intro L s w9 hN hU hi hS K hK
          dsimp only at hK ⊢
          simp only [Act.put, List.setIfInBounds_toArray, List.set_cons_zero, List.set_cons_succ] at hK
          have e4 : s 4 = .bool true := hS.val_at 4 rfl (by decide) (hN.out 4 rfl)
          simp only [e4] at hK ⊢
          go_simp
          exact hK.out _ _ (hS.val rfl (noStore_of rfl) (Below.refl _ _) rfl)
        · intro L s w9 hN hU hi hS K hK
          dsimp only at hK ⊢
          simp only [Act.put, List.setIfInBounds_toArray, List.set_cons_zero, List.set_cons_succ] at hK
          have e5 : s 5 = .int .i64 p5 := hS.val_at 5 rfl (by decide) (hN.out 5 rfl)
          simp only [e5] at hK ⊢
          have e6 : s 6 = .int .i64 p5 := hS.val_at 6 rfl (by decide) (hN.out 6 rfl)
          simp only [e6] at hK ⊢
          have e4 : s 4 = .bool true := hS.val_at 4 rfl (by decide) (hN.out 4 rfl)
          simp only [e4] at hK ⊢
          go_simp
          exact hK.out _ _ (hS.val rfl (noStore_of rfl) (Below.refl _ _) rfl)
        · intro L s w9 hN hU hi hS K hK
          dsimp only at hK ⊢
          simp only [Act.put, List.setIfInBounds_toArray, List.set_cons_zero, List.set_cons_succ] at hK
          have e4 : s 4 = .bool true := hS.val_at 4 rfl (by decide) (hN.out 4 rfl)
          simp only [e4] at hK ⊢
          have e7 : s 7 = .bool true := hS.val_at 7 rfl (by decide) (hN.out 7 rfl)
          simp only [e7] at hK ⊢
          go_simp
          exact hK.out _ _ (hS.val rfl (noStore_of rfl) (Below.refl _ _) rfl)
        · intro L s w9 hN hU hi hS K hK
          dsimp only at hK ⊢
          simp only [Act.put, List.setIfInBounds_toArray, List.set_cons_zero, List.set_cons_succ] at hK
          have e8 : s 8 = .bool true := hS.val_at 8 rfl (by decide) (hN.out 8 rfl)
          simp only [e8] at hK ⊢
          go_simp
          exact hK.out _ _ (hS.val rfl (noStore_of rfl) (Below.refl _ _) rfl)
        · intro L s w9 hN hU hi hS K hK
          dsimp only at hK ⊢
          simp only [Act.put, List.setIfInBounds_toArray, List.set_cons_zero, List.set_cons_succ] at hK
          have e9 : s 9 = .bool true := hS.val_at 9 rfl (by decide) (hN.out 9 rfl)
          simp only [e9] at hK ⊢
          obtain ⟨u1, u2, u3, u4⟩ := (hS.mem.k (i := 1) rfl).four
          go_simp
          exact hK.out _ _ (hS.val rfl (noStore_of rfl) (Below.refl _ _) rfl)
        · intro L s w9 hN hU hi hS K hK
          dsimp only at hK ⊢
          simp only [Act.put, List.setIfInBounds_toArray, List.set_cons_zero, List.set_cons_succ] at hK
          have e10 : s 10 = .agg #[.bool t1, .slice A9 t2.length c9, .bool t3, .slice B9 t4.length d9] := hS.val_at 10 rfl (by decide) (hN.out 10 rfl)
          simp only [e10] at hK ⊢
          have e9 : s 9 = .bool true := hS.val_at 9 rfl (by decide) (hN.out 9 rfl)
          simp only [e9] at hK ⊢
          go_simp
          go_at_call 20
          refine (ours4_any _ _ _ _ _ _ _ _ _).mono ?_
          rintro e9 w10 ⟨rfl, q⟩
          exact hK.out _ _ (hS.val rfl (noStore_of rfl) q rfl)
        · intro L s w9 hN hU hi hS K hK
          dsimp only at hK ⊢
          simp only [Act.put, List.setIfInBounds_toArray, List.set_cons_zero, List.set_cons_succ] at hK
          have e9 : s 9 = .bool true := hS.val_at 9 rfl (by decide) (hN.out 9 rfl)
          simp only [e9] at hK ⊢
          obtain ⟨u1, u2, u3, u4⟩ := (hS.mem.k (i := 0) rfl).four
          go_simp
          exact hK.out _ _ (hS.val rfl (noStore_of rfl) (Below.refl _ _) rfl)
        · intro L s w9 hN hU hi hS K hK
          dsimp only at hK ⊢
          simp only [Act.put, List.setIfInBounds_toArray, List.set_cons_zero, List.set_cons_succ] at hK
          have e11 : s 11 = rv t1 A9 t2.length c9 t3 B9 t4.length d9 := hS.val_at 11 rfl (by decide) (hN.out 11 rfl)
          simp only [e11] at hK ⊢
          have e12 : s 12 = .agg #[.bool t1, .slice A11 t2.length c11, .bool t3, .slice B11 t4.length d11] := hS.val_at 12 rfl (by decide) (hN.out 12 rfl)
          simp only [e12] at hK ⊢
          have e9 : s 9 = .bool true := hS.val_at 9 rfl (by decide) (hN.out 9 rfl)
          simp only [e9] at hK ⊢
          go_simp
          go_at_call 19
          refine (rqsame_self (hS.mem.r (i := 2) rfl) (hS.mem.r (i := 3) rfl) (hS.mem.r (i := 0) rfl) (hS.mem.r (i := 1) rfl) Lta.out Ltb.out).mono ?_
          rintro e9 w10 ⟨rfl, q⟩
          exact hK.out _ _ (hS.val rfl (noStore_of rfl) q rfl)
        · intro L s w9 hN hU hi hS K hK
          dsimp only at hK ⊢
          simp only [Act.put, List.setIfInBounds_toArray, List.set_cons_zero, List.set_cons_succ] at hK
          have e9 : s 9 = .bool true := hS.val_at 9 rfl (by decide) (hN.out 9 rfl)
          simp only [e9] at hK ⊢
          have e13 : s 13 = .bool true := hS.val_at 13 rfl (by decide) (hN.out 13 rfl)
          simp only [e13] at hK ⊢
          go_simp
          exact hK.out _ _ (hS.val rfl (noStore_of rfl) (Below.refl _ _) rfl)
        · intro L s w9 hN hU hi hS K hK
          dsimp only at hK ⊢
          simp only [Act.put, List.setIfInBounds_toArray, List.set_cons_zero, List.set_cons_succ] at hK
          have e14 : s 14 = .bool true := hS.val_at 14 rfl (by decide) (hN.out 14 rfl)
          simp only [e14] at hK ⊢
          go_simp
          exact hK.out _ _ (hS.val rfl (noStore_of rfl) (Below.refl _ _) rfl)
        · intro L s w9 hN hU hi hS K hK
          dsimp only at hK ⊢
          simp only [Act.put, List.setIfInBounds_toArray, List.set_cons_zero, List.set_cons_succ] at hK
          have e15 : s 15 = .bool true := hS.val_at 15 rfl (by decide) (hN.out 15 rfl)
          simp only [e15] at hK ⊢
          go_simp
          exact hK.out _ _ (hS.val rfl (noStore_of rfl) (Below.refl _ _) rfl)
        · intro L s w9 hN hU hi hS K hK
          dsimp only at hK ⊢
          simp only [Act.put, List.setIfInBounds_toArray, List.set_cons_zero, List.set_cons_succ] at hK
          have e15 : s 15 = .bool true := hS.val_at 15 rfl (by decide) (hN.out 15 rfl)
          simp only [e15] at hK ⊢
          go_simp
          exact hK.out _ _ (hS.val rfl (noStore_of rfl) (Below.refl _ _) rfl)
        · intro L s w9 hN hU hi hS K hK
          dsimp only at hK ⊢
          simp only [Act.put, List.setIfInBounds_toArray, List.set_cons_zero, List.set_cons_succ] at hK
          have e16 : s 16 = .int .i64 t5 := hS.val_at 16 rfl (by decide) (hN.out 16 rfl)
          simp only [e16] at hK ⊢
          have e17 : s 17 = .int .i64 t5 := hS.val_at 17 rfl (by decide) (hN.out 17 rfl)
          simp only [e17] at hK ⊢
          have e15 : s 15 = .bool true := hS.val_at 15 rfl (by decide) (hN.out 15 rfl)
          simp only [e15] at hK ⊢
          go_simp
          exact hK.out _ _ (hS.val rfl (noStore_of rfl) (Below.refl _ _) rfl)
        · intro L s w9 hN hU hi hS K hK
          dsimp only at hK ⊢
          simp only [Act.put, List.setIfInBounds_toArray, List.set_cons_zero, List.set_cons_succ] at hK
          have e15 : s 15 = .bool true := hS.val_at 15 rfl (by decide) (hN.out 15 rfl)
          simp only [e15] at hK ⊢
          have e18 : s 18 = .bool true := hS.val_at 18 rfl (by decide) (hN.out 18 rfl)
          simp only [e18] at hK ⊢
          go_simp
          exact hK.out _ _ (hS.val rfl (noStore_of rfl) (Below.refl _ _) rfl)
        · intro L s w9 hN hU hi hS K hK
          dsimp only at hK ⊢
          simp only [Act.put, List.setIfInBounds_toArray, List.set_cons_zero, List.set_cons_succ] at hK
          have e19 : s 19 = .bool true := hS.val_at 19 rfl (by decide) (hN.out 19 rfl)
          simp only [e19] at hK ⊢
          go_simp
          exact hK.out _ _ (hS.val rfl (noStore_of rfl) (Below.refl _ _) rfl)
        · intro L s w9 hN hU hi hS K hK
          dsimp only at hK ⊢
          simp only [Act.put, List.setIfInBounds_toArray, List.set_cons_zero, List.set_cons_succ] at hK
          have e20 : s 20 = .bool true := hS.val_at 20 rfl (by decide) (hN.out 20 rfl)
          simp only [e20] at hK ⊢
          go_simp
          exact hK.out _ _ (hS.val rfl (noStore_of rfl) (Below.refl _ _) rfl)
        · intro L s w9 hN hU hi hS K hK
          dsimp only at hK ⊢
          simp only [Act.put, List.setIfInBounds_toArray, List.set_cons_zero, List.set_cons_succ] at hK
          have e20 : s 20 = .bool true := hS.val_at 20 rfl (by decide) (hN.out 20 rfl)
          simp only [e20] at hK ⊢
          go_simp
          exact hK.out _ _ (hS.val rfl (noStore_of rfl) (Below.refl _ _) rfl)
        · intro L s w9 hN hU hi hS K hK
          dsimp only at hK ⊢
          simp only [Act.put, List.setIfInBounds_toArray, List.set_cons_zero, List.set_cons_succ] at hK
          have e21 : s 21 = .int .i64 k1 := hS.val_at 21 rfl (by decide) (hN.out 21 rfl)
          simp only [e21] at hK ⊢
          have e22 : s 22 = .int .i64 k1 := hS.val_at 22 rfl (by decide) (hN.out 22 rfl)
          simp only [e22] at hK ⊢
          have e20 : s 20 = .bool true := hS.val_at 20 rfl (by decide) (hN.out 20 rfl)
          simp only [e20] at hK ⊢
          go_simp
          exact hK.out _ _ (hS.val rfl (noStore_of rfl) (Below.refl _ _) rfl)
        · intro L s w9 hN hU hi hS K hK
          dsimp only at hK ⊢
          simp only [Act.put, List.setIfInBounds_toArray, List.set_cons_zero, List.set_cons_succ] at hK
          have e20 : s 20 = .bool true := hS.val_at 20 rfl (by decide) (hN.out 20 rfl)
          simp only [e20] at hK ⊢
          have e23 : s 23 = .bool true := hS.val_at 23 rfl (by decide) (hN.out 23 rfl)
          simp only [e23] at hK ⊢
          go_simp
          exact hK.out _ _ (hS.val rfl (noStore_of rfl) (Below.refl _ _) rfl)
        · intro L s w9 hN hU hi hS K hK
          dsimp only at hK ⊢
          simp only [Act.put, List.setIfInBounds_toArray, List.set_cons_zero, List.set_cons_succ] at hK
          have e24 : s 24 = .bool true := hS.val_at 24 rfl (by decide) (hN.out 24 rfl)
          simp only [e24] at hK ⊢
          go_simp
          exact hK.out _ _ (hS.val rfl (noStore_of rfl) (Below.refl _ _) rfl)
        · intro L s w9 hN hU hi hS K hK
          dsimp only at hK ⊢
          simp only [Act.put, List.setIfInBounds_toArray, List.set_cons_zero, List.set_cons_succ] at hK
          have e25 : s 25 = .bool true := hS.val_at 25 rfl (by decide) (hN.out 25 rfl)
          simp only [e25] at hK ⊢
          go_simp
          exact hK.out _ _ (hS.val rfl (noStore_of rfl) (Below.refl _ _) rfl)
        · intro L s w9 hN hU hi hS K hK
          dsimp only at hK ⊢
          simp only [Act.put, List.setIfInBounds_toArray, List.set_cons_zero, List.set_cons_succ] at hK
          have e25 : s 25 = .bool true := hS.val_at 25 rfl (by decide) (hN.out 25 rfl)
          simp only [e25] at hK ⊢
          go_simp
          exact hK.out _ _ (hS.val rfl (noStore_of rfl) (Below.refl _ _) rfl)
        · intro L s w9 hN hU hi hS K hK
          dsimp only at hK ⊢
          simp only [Act.put, List.setIfInBounds_toArray, List.set_cons_zero, List.set_cons_succ] at hK
          have e26 : s 26 = .int .i64 k2 := hS.val_at 26 rfl (by decide) (hN.out 26 rfl)
          simp only [e26] at hK ⊢
          have e27 : s 27 = .int .i64 k2 := hS.val_at 27 rfl (by decide) (hN.out 27 rfl)
          simp only [e27] at hK ⊢
          have e25 : s 25 = .bool true := hS.val_at 25 rfl (by decide) (hN.out 25 rfl)
          simp only [e25] at hK ⊢
          go_simp
          exact hK.out _ _ (hS.val rfl (noStore_of rfl) (Below.refl _ _) rfl)
        · intro L s w9 hN hU hi hS K hK
          dsimp only at hK ⊢
          simp only [Act.put, List.setIfInBounds_toArray, List.set_cons_zero, List.set_cons_succ] at hK
          have e25 : s 25 = .bool true := hS.val_at 25 rfl (by decide) (hN.out 25 rfl)
          simp only [e25] at hK ⊢
          have e28 : s 28 = .bool true := hS.val_at 28 rfl (by decide) (hN.out 28 rfl)
          simp only [e28] at hK ⊢
          go_simp
          exact hK.out _ _ (hS.val rfl (noStore_of rfl) (Below.refl _ _) rfl)
        · intro L s w9 hN hU hi hS K hK
          dsimp only at hK ⊢
          simp only [Act.put, List.setIfInBounds_toArray, List.set_cons_zero, List.set_cons_succ] at hK
          have e29 : s 29 = .bool true := hS.val_at 29 rfl (by decide) (hN.out 29 rfl)
          simp only [e29] at hK ⊢
          go_simp
          exact hK.out _ _ (hS.val rfl (noStore_of rfl) (Below.refl _ _) rfl)
      intro L s w9 hall hS
      have eL : s 30 = .bool true := hS.val_at 30 rfl (by decide) (hall 30 (by decide))
      go_wp2
      refine bodyPost_ret (v := .bool true) (by simp [results, Try.results8, go_sem, eL]) rfl ⟨rfl, hS.mem.bel⟩
end Go.Proofs.Ytdhikpfppbcjkaa

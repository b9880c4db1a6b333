/-
  The walk of the law RatioOrder.
-/
import Derived.Test.YtdhikpfppbcjkaaQn
set_option linter.unusedSimpArgs false
set_option linter.unusedVariables false
namespace Go.Proofs.Ytdhikpfppbcjkaa
open Go.RowKit Num

set_option maxRecDepth 100000 in
set_option maxHeartbeats 8000000 in
theorem ratioOrder_use (w : World) (n : Bool) (A : Option Addr) (c : Nat) (xs : List Nat) (ha : Rd w A c xs) (m : Bool) (B : Option Addr) (d : Nat) (ys : List Nat) (hb : Rd w B d ys) (n' : Bool) (A' : Option Addr) (c' : Nat) (xs' : List Nat) (ha' : Rd w A' c' xs') (m' : Bool) (B' : Option Addr) (d' : Nat) (ys' : List Nat) (hb' : Rd w B' d' ys') (n'' : Bool) (A'' : Option Addr) (c'' : Nat) (xs'' : List Nat) (ha'' : Rd w A'' c'' xs'') (m'' : Bool) (B'' : Option Addr) (d'' : Nat) (ys'' : List Nat) (hb'' : Rd w B'' d'' ys'') :
    Calls Try.prog 7 #[rv n A xs.length c m B ys.length d, rv n' A' xs'.length c' m' B' ys'.length d', rv n'' A'' xs''.length c'' m'' B'' ys''.length d''] w fun e w' => e = .returned (.bool true) ∧ Below w.heap.size w w' := by
  have M : Mem w (((w.alloc (.cells #[.bool n, .slice A xs.length c, .bool m, .slice B ys.length d] 26)).alloc (.cells #[.bool n', .slice A' xs'.length c', .bool m', .slice B' ys'.length d'] 26)).alloc (.cells #[.bool n'', .slice A'' xs''.length c'', .bool m'', .slice B'' ys''.length d''] 26)) [(w.heap.size + 1 + 1, 26, #[.bool n'', .slice A'' xs''.length c'', .bool m'', .slice B'' ys''.length d'']), (w.heap.size + 1, 26, #[.bool n', .slice A' xs'.length c', .bool m', .slice B' ys'.length d']), (w.heap.size, 26, #[.bool n, .slice A xs.length c, .bool m, .slice B ys.length d])] [(B'', d'', ys''), (A'', c'', xs''), (B', d', ys'), (A', c', xs'), (B, d, ys), (A, c, xs)] :=
    ((((((((((Mem.start w).addR ha).addR hb).addR ha').addR hb').addR ha'').addR hb'').new 26 #[.bool n, .slice A xs.length c, .bool m, .slice B ys.length d]).newAt (by simp) 26 #[.bool n', .slice A' xs'.length c', .bool m', .slice B' ys'.length d']).newAt (by simp) 26 #[.bool n'', .slice A'' xs''.length c'', .bool m'', .slice B'' ys''.length d''])
  have ox := ha.ok
  have oy := hb.ok
  have ox' := ha'.ok
  have oy' := hb'.ok
  have ox'' := ha''.ok
  have oy'' := hb''.ok
  clear ha hb ha' hb' ha'' hb''
  by_cases hf : xs.length ≤ 8 ∧ ys.length ≤ 8 ∧ xs'.length ≤ 8 ∧ ys'.length ≤ 8 ∧ xs''.length ≤ 8 ∧ ys''.length ≤ 8
  case neg =>
    have HF : Hid (decide (xs.length ≤ 8 ∧ ys.length ≤ 8 ∧ xs'.length ≤ 8 ∧ ys'.length ≤ 8 ∧ xs''.length ≤ 8 ∧ ys''.length ≤ 8) = false) := decide_eq_false hf
    clear hf
    go_enter Try.func7, Try.ntmps7
    go_wp2_with fail
    refine (qalive_any _).mono ?_
    rintro e y1 ⟨rfl, q⟩
    replace M := M.below q
    clear q
    obtain ⟨v1, v2, v3, v4⟩ := (M.k (i := 2) rfl).four
    obtain ⟨v5, v6, v7, v8⟩ := (M.k (i := 1) rfl).four
    obtain ⟨v9, v10, v11, v12⟩ := (M.k (i := 0) rfl).four
    go_wp2_with fail
    refine (few4_3 rfl).mono ?_
    rw [HF.out]
    rintro e y2 ⟨rfl, q⟩
    replace M := M.below q
    clear q v1 v2 v3 v4 v5 v6 v7 v8 v9 v10 v11 v12
    go_wp2
    go_ret
    exact ⟨rfl, M.bel⟩
  have HF : Hid (decide (xs.length ≤ 8 ∧ ys.length ≤ 8 ∧ xs'.length ≤ 8 ∧ ys'.length ≤ 8 ∧ xs''.length ≤ 8 ∧ ys''.length ≤ 8) = true) := decide_eq_true hf
  rcases Bool.eq_false_or_eq_true (qright n xs m ys) with r1 | r1
  case inr =>
    have R1 := Lib.hid r1
    clear r1 hf
    go_enter Try.func7, Try.ntmps7
    go_wp2_with fail
    refine (qalive_any _).mono ?_
    rintro e y1 ⟨rfl, q⟩
    replace M := M.below q
    clear q
    obtain ⟨v1, v2, v3, v4⟩ := (M.k (i := 2) rfl).four
    obtain ⟨v5, v6, v7, v8⟩ := (M.k (i := 1) rfl).four
    obtain ⟨v9, v10, v11, v12⟩ := (M.k (i := 0) rfl).four
    go_wp2_with fail
    refine (few4_3 rfl).mono ?_
    rw [HF.out]
    rintro e y2 ⟨rfl, q⟩
    replace M := M.below q
    clear q v1 v2 v3 v4 v5 v6 v7 v8 v9 v10 v11 v12
    obtain ⟨v1, v2, v3, v4⟩ := (M.k (i := 2) rfl).four
    obtain ⟨v5, v6, v7, v8⟩ := (M.k (i := 1) rfl).four
    obtain ⟨v9, v10, v11, v12⟩ := (M.k (i := 0) rfl).four
    go_wp2_with fail
    refine (rqright_any (M.r (i := 5) rfl) (M.r (i := 4) rfl)).mono ?_
    rw [R1.out]
    rintro e y3 ⟨rfl, q⟩
    replace M := M.below q
    clear q v1 v2 v3 v4 v5 v6 v7 v8 v9 v10 v11 v12
    go_wp2
    go_ret
    exact ⟨rfl, M.bel⟩
  have R1 := Lib.hid r1
  rcases Bool.eq_false_or_eq_true (qright n' xs' m' ys') with r2 | r2
  case inr =>
    have R2 := Lib.hid r2
    clear r1 r2 hf
    go_enter Try.func7, Try.ntmps7
    go_wp2_with fail
    refine (qalive_any _).mono ?_
    rintro e y1 ⟨rfl, q⟩
    replace M := M.below q
    clear q
    obtain ⟨v1, v2, v3, v4⟩ := (M.k (i := 2) rfl).four
    obtain ⟨v5, v6, v7, v8⟩ := (M.k (i := 1) rfl).four
    obtain ⟨v9, v10, v11, v12⟩ := (M.k (i := 0) rfl).four
    go_wp2_with fail
    refine (few4_3 rfl).mono ?_
    rw [HF.out]
    rintro e y2 ⟨rfl, q⟩
    replace M := M.below q
    clear q v1 v2 v3 v4 v5 v6 v7 v8 v9 v10 v11 v12
    obtain ⟨v1, v2, v3, v4⟩ := (M.k (i := 2) rfl).four
    obtain ⟨v5, v6, v7, v8⟩ := (M.k (i := 1) rfl).four
    obtain ⟨v9, v10, v11, v12⟩ := (M.k (i := 0) rfl).four
    go_wp2_with fail
    refine (rqright_any (M.r (i := 5) rfl) (M.r (i := 4) rfl)).mono ?_
    rw [R1.out]
    rintro e y3 ⟨rfl, q⟩
    replace M := M.below q
    clear q v1 v2 v3 v4 v5 v6 v7 v8 v9 v10 v11 v12
    obtain ⟨v1, v2, v3, v4⟩ := (M.k (i := 2) rfl).four
    obtain ⟨v5, v6, v7, v8⟩ := (M.k (i := 1) rfl).four
    obtain ⟨v9, v10, v11, v12⟩ := (M.k (i := 0) rfl).four
    go_wp2_with fail
    refine (rqright_any (M.r (i := 3) rfl) (M.r (i := 2) rfl)).mono ?_
    rw [R2.out]
    rintro e y3 ⟨rfl, q⟩
    replace M := M.below q
    clear q v1 v2 v3 v4 v5 v6 v7 v8 v9 v10 v11 v12
    go_wp2
    go_ret
    exact ⟨rfl, M.bel⟩
  have R2 := Lib.hid r2
  rcases Bool.eq_false_or_eq_true (qright n'' xs'' m'' ys'') with r3 | r3
  case inr =>
    have R3 := Lib.hid r3
    clear r1 r2 r3 hf
    go_enter Try.func7, Try.ntmps7
    go_wp2_with fail
    refine (qalive_any _).mono ?_
    rintro e y1 ⟨rfl, q⟩
    replace M := M.below q
    clear q
    obtain ⟨v1, v2, v3, v4⟩ := (M.k (i := 2) rfl).four
    obtain ⟨v5, v6, v7, v8⟩ := (M.k (i := 1) rfl).four
    obtain ⟨v9, v10, v11, v12⟩ := (M.k (i := 0) rfl).four
    go_wp2_with fail
    refine (few4_3 rfl).mono ?_
    rw [HF.out]
    rintro e y2 ⟨rfl, q⟩
    replace M := M.below q
    clear q v1 v2 v3 v4 v5 v6 v7 v8 v9 v10 v11 v12
    obtain ⟨v1, v2, v3, v4⟩ := (M.k (i := 2) rfl).four
    obtain ⟨v5, v6, v7, v8⟩ := (M.k (i := 1) rfl).four
    obtain ⟨v9, v10, v11, v12⟩ := (M.k (i := 0) rfl).four
    go_wp2_with fail
    refine (rqright_any (M.r (i := 5) rfl) (M.r (i := 4) rfl)).mono ?_
    rw [R1.out]
    rintro e y3 ⟨rfl, q⟩
    replace M := M.below q
    clear q v1 v2 v3 v4 v5 v6 v7 v8 v9 v10 v11 v12
    obtain ⟨v1, v2, v3, v4⟩ := (M.k (i := 2) rfl).four
    obtain ⟨v5, v6, v7, v8⟩ := (M.k (i := 1) rfl).four
    obtain ⟨v9, v10, v11, v12⟩ := (M.k (i := 0) rfl).four
    go_wp2_with fail
    refine (rqright_any (M.r (i := 3) rfl) (M.r (i := 2) rfl)).mono ?_
    rw [R2.out]
    rintro e y3 ⟨rfl, q⟩
    replace M := M.below q
    clear q v1 v2 v3 v4 v5 v6 v7 v8 v9 v10 v11 v12
    obtain ⟨v1, v2, v3, v4⟩ := (M.k (i := 2) rfl).four
    obtain ⟨v5, v6, v7, v8⟩ := (M.k (i := 1) rfl).four
    obtain ⟨v9, v10, v11, v12⟩ := (M.k (i := 0) rfl).four
    go_wp2_with fail
    refine (rqright_any (M.r (i := 1) rfl) (M.r (i := 0) rfl)).mono ?_
    rw [R3.out]
    rintro e y3 ⟨rfl, q⟩
    replace M := M.below q
    clear q v1 v2 v3 v4 v5 v6 v7 v8 v9 v10 v11 v12
    go_wp2
    go_ret
    exact ⟨rfl, M.bel⟩
  have R3 := Lib.hid r3
  obtain ⟨hf1, hf2, hf3, hf4, hf5, hf6⟩ := hf
  obtain ⟨x, p1, p2, p3, p4, t1, t2, t3, t4, h1, h2, h3, h4, h5, h6, h7⟩ := order_of ox oy ox' oy' ox'' oy'' r1 r2 r3 hf1 hf2 hf3 hf4 hf5 hf6
  have H1 := Lib.hid h1
  have H2 := Lib.hid h2
  have H3 := Lib.hid h3
  have H4 := Lib.hid h4
  have H5 := Lib.hid h5
  have H6 := Lib.hid h6
  have l1 : xs.length ≤ 1000000 := by omega
  have l2 : ys.length ≤ 1000000 := by omega
  have l3 : xs'.length ≤ 1000000 := by omega
  have l4 : ys'.length ≤ 1000000 := by omega
  have X : Hid (x = -1 ∨ x = 0 ∨ x = 1) := h7
  clear h1 h2 h3 h4 h5 h6 h7 r1 r2 r3 hf1 hf2 hf3 hf4 hf5 hf6 ox oy ox' oy' ox'' oy''
  go_enter Try.func7, Try.ntmps7
  go_wp2_with fail
  refine (qalive_any _).mono ?_
  rintro e y1 ⟨rfl, q⟩
  replace M := M.below q
  clear q
  obtain ⟨v1, v2, v3, v4⟩ := (M.k (i := 2) rfl).four
  obtain ⟨v5, v6, v7, v8⟩ := (M.k (i := 1) rfl).four
  obtain ⟨v9, v10, v11, v12⟩ := (M.k (i := 0) rfl).four
  go_wp2_with fail
  refine (few4_3 rfl).mono ?_
  rw [HF.out]
  rintro e y2 ⟨rfl, q⟩
  replace M := M.below q
  clear q v1 v2 v3 v4 v5 v6 v7 v8 v9 v10 v11 v12
  obtain ⟨v1, v2, v3, v4⟩ := (M.k (i := 2) rfl).four
  obtain ⟨v5, v6, v7, v8⟩ := (M.k (i := 1) rfl).four
  obtain ⟨v9, v10, v11, v12⟩ := (M.k (i := 0) rfl).four
  go_wp2_with fail
  refine (rqright_any (M.r (i := 5) rfl) (M.r (i := 4) rfl)).mono ?_
  rw [R1.out]
  rintro e y3 ⟨rfl, q⟩
  replace M := M.below q
  clear q v1 v2 v3 v4 v5 v6 v7 v8 v9 v10 v11 v12
  obtain ⟨v1, v2, v3, v4⟩ := (M.k (i := 2) rfl).four
  obtain ⟨v5, v6, v7, v8⟩ := (M.k (i := 1) rfl).four
  obtain ⟨v9, v10, v11, v12⟩ := (M.k (i := 0) rfl).four
  go_wp2_with fail
  refine (rqright_any (M.r (i := 3) rfl) (M.r (i := 2) rfl)).mono ?_
  rw [R2.out]
  rintro e y3 ⟨rfl, q⟩
  replace M := M.below q
  clear q v1 v2 v3 v4 v5 v6 v7 v8 v9 v10 v11 v12
  obtain ⟨v1, v2, v3, v4⟩ := (M.k (i := 2) rfl).four
  obtain ⟨v5, v6, v7, v8⟩ := (M.k (i := 1) rfl).four
  obtain ⟨v9, v10, v11, v12⟩ := (M.k (i := 0) rfl).four
  go_wp2_with fail
  refine (rqright_any (M.r (i := 1) rfl) (M.r (i := 0) rfl)).mono ?_
  rw [R3.out]
  rintro e y3 ⟨rfl, q⟩
  replace M := M.below q
  clear q v1 v2 v3 v4 v5 v6 v7 v8 v9 v10 v11 v12
  go_upto_region 5 with fail
  go_cut [7, 8] (fun s7 s8 wx => s7 = .int .i64 (x) ∧ s8 = .int .i64 0 ∧ Mem w wx [(w.heap.size + 1 + 1, 26, #[.bool n'', .slice A'' xs''.length c'', .bool m'', .slice B'' ys''.length d'']), (w.heap.size + 1, 26, #[.bool n', .slice A' xs'.length c', .bool m', .slice B' ys'.length d']), (w.heap.size, 26, #[.bool n, .slice A xs.length c, .bool m, .slice B ys.length d])] [(B'', d'', ys''), (A'', c'', xs''), (B', d', ys'), (A', c', xs'), (B, d, ys), (A, c, xs)])
  case first =>
    refine region_st (n := 10) (frame := ?frame1) (fun j => [.val (.fix (.agg #[.bool n, .slice A xs.length c, .bool m, .slice B ys.length d])), .val (.fix (rv n A xs.length c m B ys.length d)), .val (.fix (.agg #[.bool n', .slice A' xs'.length c', .bool m', .slice B' ys'.length d'])), .val (.fix (rv n' A' xs'.length c' m' B' ys'.length d')), .val (.fix (.tuple #[.int .i64 (x), .int .i64 0])), .val (.fix (.tuple #[.int .i64 (x), .int .i64 0])), .val (.fix (.int .i64 (x))), .val (.fix (.int .i64 0)), .val (.fix (.int .i64 (x))), .val (.fix (.int .i64 0))].getD j .none) [] (by kernel_rfl) (by kernel_rfl) (by kernel_rfl) rfl M (fun _ h => by cases h) (fun _ h => by cases h) ?_ ?_ ?_
    case refine_1 =>
      intro s
      simp only [fr, Act.put, List.append_eq, List.cons_append, List.nil_append, List.setIfInBounds_toArray, List.set_cons_zero, List.set_cons_succ, Nat.reduceAdd]
      rfl
    case refine_2 =>
      refine Steps.cons 0 (j := 1) rfl ?_ (Steps.cons 1 (j := 2) rfl ?_ (Steps.cons 2 (j := 3) rfl ?_ (Steps.cons 3 (j := 4) rfl ?_ (Steps.cons 4 (j := 5) rfl ?_ (Steps.cons 5 (j := 6) rfl ?_ (Steps.cons 6 (j := 7) rfl ?_ (Steps.cons 7 (j := 8) rfl ?_ (Steps.cons 8 (j := 9) rfl ?_ (Steps.cons 9 (j := 10) rfl ?_ Steps.nil)))))))))
      · intro L s w9 hN hU hi hS K hK
        dsimp only at hK ⊢
        simp only [Act.put, List.setIfInBounds_toArray, List.set_cons_zero, List.set_cons_succ] at hK
        obtain ⟨u1, u2, u3, u4⟩ := (hS.mem.k (i := 2) rfl).four
        go_simp
        exact hK.out _ _ (hS.val rfl (noStore_of rfl) (Below.refl _ _) rfl)
      · intro L s w9 hN hU hi hS K hK
        dsimp only at hK ⊢
        simp only [Act.put, List.setIfInBounds_toArray, List.set_cons_zero, List.set_cons_succ] at hK
        have e0 : s 0 = .agg #[.bool n, .slice A xs.length c, .bool m, .slice B ys.length d] := hS.val_at 0 rfl (by decide) (hN.out 0 rfl)
        simp only [e0] at hK ⊢
        go_simp
        go_at_call 17
        refine (theirs4_any _ _ _ _ _ _ _ _ _).mono ?_
        rintro e9 w10 ⟨rfl, q⟩
        exact hK.out _ _ (hS.val rfl (noStore_of rfl) q rfl)
      · intro L s w9 hN hU hi hS K hK
        dsimp only at hK ⊢
        simp only [Act.put, List.setIfInBounds_toArray, List.set_cons_zero, List.set_cons_succ] at hK
        obtain ⟨u1, u2, u3, u4⟩ := (hS.mem.k (i := 1) rfl).four
        go_simp
        exact hK.out _ _ (hS.val rfl (noStore_of rfl) (Below.refl _ _) rfl)
      · intro L s w9 hN hU hi hS K hK
        dsimp only at hK ⊢
        simp only [Act.put, List.setIfInBounds_toArray, List.set_cons_zero, List.set_cons_succ] at hK
        have e2 : s 2 = .agg #[.bool n', .slice A' xs'.length c', .bool m', .slice B' ys'.length d'] := hS.val_at 2 rfl (by decide) (hN.out 2 rfl)
        simp only [e2] at hK ⊢
        go_simp
        go_at_call 17
        refine (theirs4_any _ _ _ _ _ _ _ _ _).mono ?_
        rintro e9 w10 ⟨rfl, q⟩
        exact hK.out _ _ (hS.val rfl (noStore_of rfl) q rfl)
      · intro L s w9 hN hU hi hS K hK
        dsimp only at hK ⊢
        simp only [Act.put, List.setIfInBounds_toArray, List.set_cons_zero, List.set_cons_succ] at hK
        have e1 : s 1 = rv n A xs.length c m B ys.length d := hS.val_at 1 rfl (by decide) (hN.out 1 rfl)
        simp only [e1] at hK ⊢
        have e3 : s 3 = rv n' A' xs'.length c' m' B' ys'.length d' := hS.val_at 3 rfl (by decide) (hN.out 3 rfl)
        simp only [e3] at hK ⊢
        go_simp
        go_at_call 38
        refine (qcmp_eq H1.out (hS.mem.r (i := 5) rfl) (hS.mem.r (i := 4) rfl) (hS.mem.r (i := 3) rfl) (hS.mem.r (i := 2) rfl)).mono ?_
        rintro e9 w10 ⟨rfl, q⟩
        exact hK.out _ _ (hS.val rfl (noStore_of rfl) q rfl)
      · intro L s w9 hN hU hi hS K hK
        dsimp only at hK ⊢
        simp only [Act.put, List.setIfInBounds_toArray, List.set_cons_zero, List.set_cons_succ] at hK
        have e4 : s 4 = .tuple #[.int .i64 (x), .int .i64 0] := hS.val_at 4 rfl (by decide) (hN.out 4 rfl)
        simp only [e4] at hK ⊢
        go_simp
        exact hK.out _ _ (hS.val rfl (noStore_of rfl) (Below.refl _ _) rfl)
      · intro L s w9 hN hU hi hS K hK
        dsimp only at hK ⊢
        simp only [Act.put, List.setIfInBounds_toArray, List.set_cons_zero, List.set_cons_succ] at hK
        have e5 : s 5 = .tuple #[.int .i64 (x), .int .i64 0] := hS.val_at 5 rfl (by decide) (hN.out 5 rfl)
        simp only [e5] at hK ⊢
        go_simp
        exact hK.out _ _ (hS.val rfl (noStore_of rfl) (Below.refl _ _) rfl)
      · intro L s w9 hN hU hi hS K hK
        dsimp only at hK ⊢
        simp only [Act.put, List.setIfInBounds_toArray, List.set_cons_zero, List.set_cons_succ] at hK
        have e5 : s 5 = .tuple #[.int .i64 (x), .int .i64 0] := hS.val_at 5 rfl (by decide) (hN.out 5 rfl)
        simp only [e5] at hK ⊢
        go_simp
        exact hK.out _ _ (hS.val rfl (noStore_of rfl) (Below.refl _ _) rfl)
      · intro L s w9 hN hU hi hS K hK
        dsimp only at hK ⊢
        simp only [Act.put, List.setIfInBounds_toArray, List.set_cons_zero, List.set_cons_succ] at hK
        have e6 : s 6 = .int .i64 (x) := hS.val_at 6 rfl (by decide) (hN.out 6 rfl)
        simp only [e6] at hK ⊢
        go_simp
        exact hK.out _ _ (hS.val rfl (noStore_of rfl) (Below.refl _ _) rfl)
      · intro L s w9 hN hU hi hS K hK
        dsimp only at hK ⊢
        simp only [Act.put, List.setIfInBounds_toArray, List.set_cons_zero, List.set_cons_succ] at hK
        have e7 : s 7 = .int .i64 0 := hS.val_at 7 rfl (by decide) (hN.out 7 rfl)
        simp only [e7] at hK ⊢
        go_simp
        exact hK.out _ _ (hS.val rfl (noStore_of rfl) (Below.refl _ _) rfl)
    intro L s w9 hall hS
    have e8 := hS.val_at 8 rfl (by decide) (hall 8 (by decide))
    have e9 := hS.val_at 9 rfl (by decide) (hall 9 (by decide))
    go_wp2_with fail
    go_meet
    exact ⟨e8, e9, hS.mem⟩
  case rest =>
    clear M
    obtain ⟨rfl, rfl, M⟩ := hcut
    go_upto_region 6 with fail
    go_cut [9, 10] (fun s7 s8 wx => s7 = .int .i64 (-x) ∧ s8 = .int .i64 0 ∧ Mem w wx [(w.heap.size + 1 + 1, 26, #[.bool n'', .slice A'' xs''.length c'', .bool m'', .slice B'' ys''.length d'']), (w.heap.size + 1, 26, #[.bool n', .slice A' xs'.length c', .bool m', .slice B' ys'.length d']), (w.heap.size, 26, #[.bool n, .slice A xs.length c, .bool m, .slice B ys.length d])] [(B'', d'', ys''), (A'', c'', xs''), (B', d', ys'), (A', c', xs'), (B, d, ys), (A, c, xs)])
    case first =>
      refine region_st (n := 10) (frame := ?frame2) (fun j => [.val (.fix (.agg #[.bool n', .slice A' xs'.length c', .bool m', .slice B' ys'.length d'])), .val (.fix (rv n' A' xs'.length c' m' B' ys'.length d')), .val (.fix (.agg #[.bool n, .slice A xs.length c, .bool m, .slice B ys.length d])), .val (.fix (rv n A xs.length c m B ys.length d)), .val (.fix (.tuple #[.int .i64 (-x), .int .i64 0])), .val (.fix (.tuple #[.int .i64 (-x), .int .i64 0])), .val (.fix (.int .i64 (-x))), .val (.fix (.int .i64 0)), .val (.fix (.int .i64 (-x))), .val (.fix (.int .i64 0))].getD j .none) [] (by kernel_rfl) (by kernel_rfl) (by kernel_rfl) rfl M (fun _ h => by cases h) (fun _ h => by cases h) ?_ ?_ ?_
      case refine_1 =>
        intro s
        simp only [fr, Act.put, List.append_eq, List.cons_append, List.nil_append, List.setIfInBounds_toArray, List.set_cons_zero, List.set_cons_succ, Nat.reduceAdd]
        rfl
      case refine_2 =>
        refine Steps.cons 0 (j := 1) rfl ?_ (Steps.cons 1 (j := 2) rfl ?_ (Steps.cons 2 (j := 3) rfl ?_ (Steps.cons 3 (j := 4) rfl ?_ (Steps.cons 4 (j := 5) rfl ?_ (Steps.cons 5 (j := 6) rfl ?_ (Steps.cons 6 (j := 7) rfl ?_ (Steps.cons 7 (j := 8) rfl ?_ (Steps.cons 8 (j := 9) rfl ?_ (Steps.cons 9 (j := 10) rfl ?_ Steps.nil)))))))))
        · intro L s w9 hN hU hi hS K hK
          dsimp only at hK ⊢
          simp only [Act.put, List.setIfInBounds_toArray, List.set_cons_zero, List.set_cons_succ] at hK
          obtain ⟨u1, u2, u3, u4⟩ := (hS.mem.k (i := 1) rfl).four
          go_simp
          exact hK.out _ _ (hS.val rfl (noStore_of rfl) (Below.refl _ _) rfl)
        · intro L s w9 hN hU hi hS K hK
          dsimp only at hK ⊢
          simp only [Act.put, List.setIfInBounds_toArray, List.set_cons_zero, List.set_cons_succ] at hK
          have e0 : s 0 = .agg #[.bool n', .slice A' xs'.length c', .bool m', .slice B' ys'.length d'] := hS.val_at 0 rfl (by decide) (hN.out 0 rfl)
          simp only [e0] at hK ⊢
          go_simp
          go_at_call 17
          refine (theirs4_any _ _ _ _ _ _ _ _ _).mono ?_
          rintro e9 w10 ⟨rfl, q⟩
          exact hK.out _ _ (hS.val rfl (noStore_of rfl) q rfl)
        · intro L s w9 hN hU hi hS K hK
          dsimp only at hK ⊢
          simp only [Act.put, List.setIfInBounds_toArray, List.set_cons_zero, List.set_cons_succ] at hK
          obtain ⟨u1, u2, u3, u4⟩ := (hS.mem.k (i := 2) rfl).four
          go_simp
          exact hK.out _ _ (hS.val rfl (noStore_of rfl) (Below.refl _ _) rfl)
        · intro L s w9 hN hU hi hS K hK
          dsimp only at hK ⊢
          simp only [Act.put, List.setIfInBounds_toArray, List.set_cons_zero, List.set_cons_succ] at hK
          have e2 : s 2 = .agg #[.bool n, .slice A xs.length c, .bool m, .slice B ys.length d] := hS.val_at 2 rfl (by decide) (hN.out 2 rfl)
          simp only [e2] at hK ⊢
          go_simp
          go_at_call 17
          refine (theirs4_any _ _ _ _ _ _ _ _ _).mono ?_
          rintro e9 w10 ⟨rfl, q⟩
          exact hK.out _ _ (hS.val rfl (noStore_of rfl) q rfl)
        · intro L s w9 hN hU hi hS K hK
          dsimp only at hK ⊢
          simp only [Act.put, List.setIfInBounds_toArray, List.set_cons_zero, List.set_cons_succ] at hK
          have e1 : s 1 = rv n' A' xs'.length c' m' B' ys'.length d' := hS.val_at 1 rfl (by decide) (hN.out 1 rfl)
          simp only [e1] at hK ⊢
          have e3 : s 3 = rv n A xs.length c m B ys.length d := hS.val_at 3 rfl (by decide) (hN.out 3 rfl)
          simp only [e3] at hK ⊢
          go_simp
          go_at_call 38
          refine (qcmp_eq H2.out (hS.mem.r (i := 3) rfl) (hS.mem.r (i := 2) rfl) (hS.mem.r (i := 5) rfl) (hS.mem.r (i := 4) rfl)).mono ?_
          rintro e9 w10 ⟨rfl, q⟩
          exact hK.out _ _ (hS.val rfl (noStore_of rfl) q rfl)
        · intro L s w9 hN hU hi hS K hK
          dsimp only at hK ⊢
          simp only [Act.put, List.setIfInBounds_toArray, List.set_cons_zero, List.set_cons_succ] at hK
          have e4 : s 4 = .tuple #[.int .i64 (-x), .int .i64 0] := hS.val_at 4 rfl (by decide) (hN.out 4 rfl)
          simp only [e4] at hK ⊢
          go_simp
          exact hK.out _ _ (hS.val rfl (noStore_of rfl) (Below.refl _ _) rfl)
        · intro L s w9 hN hU hi hS K hK
          dsimp only at hK ⊢
          simp only [Act.put, List.setIfInBounds_toArray, List.set_cons_zero, List.set_cons_succ] at hK
          have e5 : s 5 = .tuple #[.int .i64 (-x), .int .i64 0] := hS.val_at 5 rfl (by decide) (hN.out 5 rfl)
          simp only [e5] at hK ⊢
          go_simp
          exact hK.out _ _ (hS.val rfl (noStore_of rfl) (Below.refl _ _) rfl)
        · intro L s w9 hN hU hi hS K hK
          dsimp only at hK ⊢
          simp only [Act.put, List.setIfInBounds_toArray, List.set_cons_zero, List.set_cons_succ] at hK
          have e5 : s 5 = .tuple #[.int .i64 (-x), .int .i64 0] := hS.val_at 5 rfl (by decide) (hN.out 5 rfl)
          simp only [e5] at hK ⊢
          go_simp
          exact hK.out _ _ (hS.val rfl (noStore_of rfl) (Below.refl _ _) rfl)
        · intro L s w9 hN hU hi hS K hK
          dsimp only at hK ⊢
          simp only [Act.put, List.setIfInBounds_toArray, List.set_cons_zero, List.set_cons_succ] at hK
          have e6 : s 6 = .int .i64 (-x) := hS.val_at 6 rfl (by decide) (hN.out 6 rfl)
          simp only [e6] at hK ⊢
          go_simp
          exact hK.out _ _ (hS.val rfl (noStore_of rfl) (Below.refl _ _) rfl)
        · intro L s w9 hN hU hi hS K hK
          dsimp only at hK ⊢
          simp only [Act.put, List.setIfInBounds_toArray, List.set_cons_zero, List.set_cons_succ] at hK
          have e7 : s 7 = .int .i64 0 := hS.val_at 7 rfl (by decide) (hN.out 7 rfl)
          simp only [e7] at hK ⊢
          go_simp
          exact hK.out _ _ (hS.val rfl (noStore_of rfl) (Below.refl _ _) rfl)
      intro L s w9 hall hS
      have e8 := hS.val_at 8 rfl (by decide) (hall 8 (by decide))
      have e9 := hS.val_at 9 rfl (by decide) (hall 9 (by decide))
      go_wp2_with fail
      go_meet
      exact ⟨e8, e9, hS.mem⟩
    case rest =>
      clear M
      obtain ⟨rfl, rfl, M⟩ := hcut
      go_upto_region 7 with fail
      go_cut [11, 12] (fun s5 s6 wx => ∃ (g11 : Nat) (A11 B11 : Option Addr) (c11 d11 : Nat), s5 = .pointer (some ⟨g11, 0, none⟩) ∧ s6 = .int .i64 0 ∧ Mem w wx [(g11, 31, #[.bool p1, .slice A11 p2.length c11, .bool p3, .slice B11 p4.length d11]), (w.heap.size + 1 + 1, 26, #[.bool n'', .slice A'' xs''.length c'', .bool m'', .slice B'' ys''.length d'']), (w.heap.size + 1, 26, #[.bool n', .slice A' xs'.length c', .bool m', .slice B' ys'.length d']), (w.heap.size, 26, #[.bool n, .slice A xs.length c, .bool m, .slice B ys.length d])] [(A11, c11, p2), (B11, d11, p4), (B'', d'', ys''), (A'', c'', xs''), (B', d', ys'), (A', c', xs'), (B, d, ys), (A, c, xs)])
      case first =>
        refine region_st (n := 11) (frame := ?frame3) (fun j => [.val (.fix (.agg #[.bool n, .slice A xs.length c, .bool m, .slice B ys.length d])), .val (.fix (rv n A xs.length c m B ys.length d)), .val (.fix (.agg #[.bool n'', .slice A'' xs''.length c'', .bool m'', .slice B'' ys''.length d''])), .val (.fix (rv n'' A'' xs''.length c'' m'' B'' ys''.length d'')), .val (.re (p1, p2, p3, p4, 0)), .val (.re (p1, p2, p3, p4, 0)), .val (.rat (p1) (p2) (p3) (p4)), .val (.fix (.int .i64 0)), .cell 9 31 #[.bool false, .slice none 0 0, .bool false, .slice none 0 0] (.rat (p1) (p2) (p3) (p4)), .none, .val (.fix (.int .i64 0))].getD j .none) [] (by kernel_rfl) (by kernel_rfl) (by kernel_rfl) rfl M (fun _ h => by cases h) (fun _ h => by cases h) ?_ ?_ ?_
        case refine_1 =>
          intro s
          simp only [fr, Act.put, List.append_eq, List.cons_append, List.nil_append, List.setIfInBounds_toArray, List.set_cons_zero, List.set_cons_succ, Nat.reduceAdd]
          rfl
        case refine_2 =>
          refine Steps.cons 0 (j := 1) rfl ?_ (Steps.cons 1 (j := 2) rfl ?_ (Steps.cons 2 (j := 3) rfl ?_ (Steps.cons 3 (j := 4) rfl ?_ (Steps.cons 4 (j := 5) rfl ?_ (Steps.cons 5 (j := 6) rfl ?_ (Steps.cons 6 (j := 7) rfl ?_ (Steps.cons 7 (j := 8) rfl ?_ (Steps.cons 8 (j := 9) rfl ?_ (Steps.cons 9 (j := 10) rfl ?_ (Steps.cons 10 (j := 11) rfl ?_ Steps.nil))))))))))
          · intro L s w9 hN hU hi hS K hK
            dsimp only at hK ⊢
            simp only [Act.put, List.setIfInBounds_toArray, List.set_cons_zero, List.set_cons_succ] at hK
            obtain ⟨u1, u2, u3, u4⟩ := (hS.mem.k (i := 2) rfl).four
            go_simp
            exact hK.out _ _ (hS.val rfl rfl (Below.refl _ _) rfl)
          · intro L s w9 hN hU hi hS K hK
            dsimp only at hK ⊢
            simp only [Act.put, List.setIfInBounds_toArray, List.set_cons_zero, List.set_cons_succ] at hK
            have e0 : s 0 = .agg #[.bool n, .slice A xs.length c, .bool m, .slice B ys.length d] := hS.val_at 0 rfl (by decide) (hN.out 0 rfl)
            simp only [e0] at hK ⊢
            go_simp
            go_at_call 17
            refine (theirs4_any _ _ _ _ _ _ _ _ _).mono ?_
            rintro e9 w10 ⟨rfl, q⟩
            exact hK.out _ _ (hS.val rfl rfl q rfl)
          · intro L s w9 hN hU hi hS K hK
            dsimp only at hK ⊢
            simp only [Act.put, List.setIfInBounds_toArray, List.set_cons_zero, List.set_cons_succ] at hK
            obtain ⟨u1, u2, u3, u4⟩ := (hS.mem.k (i := 0) rfl).four
            go_simp
            exact hK.out _ _ (hS.val rfl rfl (Below.refl _ _) rfl)
          · intro L s w9 hN hU hi hS K hK
            dsimp only at hK ⊢
            simp only [Act.put, List.setIfInBounds_toArray, List.set_cons_zero, List.set_cons_succ] at hK
            have e2 : s 2 = .agg #[.bool n'', .slice A'' xs''.length c'', .bool m'', .slice B'' ys''.length d''] := hS.val_at 2 rfl (by decide) (hN.out 2 rfl)
            simp only [e2] at hK ⊢
            go_simp
            go_at_call 17
            refine (theirs4_any _ _ _ _ _ _ _ _ _).mono ?_
            rintro e9 w10 ⟨rfl, q⟩
            exact hK.out _ _ (hS.val rfl rfl q rfl)
          · intro L s w9 hN hU hi hS K hK
            dsimp only at hK ⊢
            simp only [Act.put, List.setIfInBounds_toArray, List.set_cons_zero, List.set_cons_succ] at hK
            have e1 : s 1 = rv n A xs.length c m B ys.length d := hS.val_at 1 rfl (by decide) (hN.out 1 rfl)
            simp only [e1] at hK ⊢
            have e3 : s 3 = rv n'' A'' xs''.length c'' m'' B'' ys''.length d'' := hS.val_at 3 rfl (by decide) (hN.out 3 rfl)
            simp only [e3] at hK ⊢
            go_simp
            go_at_call 35
            refine (qadd_eq H3.out (hS.mem.r (i := 5) rfl) (hS.mem.r (i := 4) rfl) (hS.mem.r (i := 1) rfl) (hS.mem.r (i := 0) rfl)).mono ?_
            rintro e9 w10 ⟨⟨A0, c0, B0, d0, rfl, h0, k0⟩, q⟩
            exact hK.out _ _ (hS.val rfl rfl q ⟨A0, c0, B0, d0, rfl, h0, k0⟩)
          · intro L s w9 hN hU hi hS K hK
            dsimp only at hK ⊢
            simp only [Act.put, List.setIfInBounds_toArray, List.set_cons_zero, List.set_cons_succ] at hK
            obtain ⟨A4, c4, B4, d4, e4, h4, k4⟩ := hS.val_at 4 rfl (by decide) (hN.out 4 rfl)
            simp only [e4] at hK ⊢
            go_simp
            exact hK.out _ _ (hS.val rfl rfl (Below.refl _ _) ⟨A4, c4, B4, d4, rfl, h4, k4⟩)
          · intro L s w9 hN hU hi hS K hK
            dsimp only at hK ⊢
            simp only [Act.put, List.setIfInBounds_toArray, List.set_cons_zero, List.set_cons_succ] at hK
            obtain ⟨A5, c5, B5, d5, e5, h5, k5⟩ := hS.val_at 5 rfl (by decide) (hN.out 5 rfl)
            simp only [e5] at hK ⊢
            go_simp
            exact hK.out _ _ (hS.val rfl rfl (Below.refl _ _) ⟨A5, c5, B5, d5, rfl, h5, k5⟩)
          · intro L s w9 hN hU hi hS K hK
            dsimp only at hK ⊢
            simp only [Act.put, List.setIfInBounds_toArray, List.set_cons_zero, List.set_cons_succ] at hK
            obtain ⟨A5, c5, B5, d5, e5, h5, k5⟩ := hS.val_at 5 rfl (by decide) (hN.out 5 rfl)
            simp only [e5] at hK ⊢
            go_simp
            exact hK.out _ _ (hS.val rfl rfl (Below.refl _ _) rfl)
          · intro L s w9 hN hU hi hS K hK
            dsimp only at hK ⊢
            simp only [Act.put, List.setIfInBounds_toArray, List.set_cons_zero, List.set_cons_succ] at hK
            go_simp
            exact hK.out _ _ (hS.new rfl rfl hi.out (fun _ => hU.out 9 _ rfl rfl) rfl)
          · intro L s w9 hN hU hi hS K hK
            dsimp only at hK ⊢
            simp only [Act.put, List.setIfInBounds_toArray, List.set_cons_zero, List.set_cons_succ] at hK
            obtain ⟨A6, c6, B6, d6, e6, h6, k6⟩ := hS.val_at 6 rfl (by decide) (hN.out 6 rfl)
            simp only [e6] at hK ⊢
            obtain ⟨g9, cs9, e9, l9, b9, n9, z9, _⟩ := hS.cell_at 8 rfl (by decide) (hN.out 8 rfl)
            obtain rfl := z9 hi.out
            simp only [e9] at hK ⊢
            refine ite_of rfl ?_
            refine wp_store_row _ _ _ rfl g9 _ rfl rfl _ _ b9 info_rat rfl (by rw [← Array.all_toList]; rfl) ?_
            simp only [Act.put]
            exact hK.out undef _ (hS.fill (u := undef) (c := .rat (p1) (p2) (p3) (p4)) rfl rfl (by decide) rfl (hN.out 8 rfl) hi.out e9 (setRow_grown _ _ _) (b9.row _) rfl ⟨A6, c6, B6, d6, rfl, h6, k6⟩)
          · intro L s w9 hN hU hi hS K hK
            dsimp only at hK ⊢
            simp only [Act.put, List.setIfInBounds_toArray, List.set_cons_zero, List.set_cons_succ] at hK
            have e7 : s 7 = .int .i64 0 := hS.val_at 7 rfl (by decide) (hN.out 7 rfl)
            simp only [e7] at hK ⊢
            go_simp
            exact hK.out _ _ (hS.val rfl rfl (Below.refl _ _) rfl)
        intro L s w9 hall hS
        obtain ⟨g8, cs8, e8, l8, b8, n8, _, z8⟩ := hS.cell_at 8 rfl (by decide) (hall 8 (by decide))
        obtain ⟨A8, c8, B8, d8, rfl, h8, k8⟩ := z8 (hall 9 (by decide))
        rw [e8]
        have e10 := hS.val_at 10 rfl (by decide) (hall 10 (by decide))
        go_wp2_with fail
        go_meet
        exact ⟨_, A8, B8, c8, d8, rfl, e10, ((hS.mem.addR k8).addR h8).addK b8⟩
      case rest =>
        clear M
        obtain ⟨g11, A11, B11, c11, d11, rfl, rfl, M⟩ := hcut
        go_upto_region 8 with fail
        go_cut [13, 14] (fun s5 s6 wx => ∃ (g13 : Nat) (A13 B13 : Option Addr) (c13 d13 : Nat), s5 = .pointer (some ⟨g13, 0, none⟩) ∧ s6 = .int .i64 0 ∧ Mem w wx [(g13, 31, #[.bool t1, .slice A13 t2.length c13, .bool t3, .slice B13 t4.length d13]), (g11, 31, #[.bool p1, .slice A11 p2.length c11, .bool p3, .slice B11 p4.length d11]), (w.heap.size + 1 + 1, 26, #[.bool n'', .slice A'' xs''.length c'', .bool m'', .slice B'' ys''.length d'']), (w.heap.size + 1, 26, #[.bool n', .slice A' xs'.length c', .bool m', .slice B' ys'.length d']), (w.heap.size, 26, #[.bool n, .slice A xs.length c, .bool m, .slice B ys.length d])] [(A13, c13, t2), (B13, d13, t4), (A11, c11, p2), (B11, d11, p4), (B'', d'', ys''), (A'', c'', xs''), (B', d', ys'), (A', c', xs'), (B, d, ys), (A, c, xs)])
        case first =>
          refine region_st (n := 11) (frame := ?frame4) (fun j => [.val (.fix (.agg #[.bool n', .slice A' xs'.length c', .bool m', .slice B' ys'.length d'])), .val (.fix (rv n' A' xs'.length c' m' B' ys'.length d')), .val (.fix (.agg #[.bool n'', .slice A'' xs''.length c'', .bool m'', .slice B'' ys''.length d''])), .val (.fix (rv n'' A'' xs''.length c'' m'' B'' ys''.length d'')), .val (.re (t1, t2, t3, t4, 0)), .val (.re (t1, t2, t3, t4, 0)), .val (.rat (t1) (t2) (t3) (t4)), .val (.fix (.int .i64 0)), .cell 9 31 #[.bool false, .slice none 0 0, .bool false, .slice none 0 0] (.rat (t1) (t2) (t3) (t4)), .none, .val (.fix (.int .i64 0))].getD j .none) [] (by kernel_rfl) (by kernel_rfl) (by kernel_rfl) rfl M (fun _ h => by cases h) (fun _ h => by cases h) ?_ ?_ ?_
          case refine_1 =>
            intro s
            simp only [fr, Act.put, List.append_eq, List.cons_append, List.nil_append, List.setIfInBounds_toArray, List.set_cons_zero, List.set_cons_succ, Nat.reduceAdd]
            rfl
          case refine_2 =>
            refine Steps.cons 0 (j := 1) rfl ?_ (Steps.cons 1 (j := 2) rfl ?_ (Steps.cons 2 (j := 3) rfl ?_ (Steps.cons 3 (j := 4) rfl ?_ (Steps.cons 4 (j := 5) rfl ?_ (Steps.cons 5 (j := 6) rfl ?_ (Steps.cons 6 (j := 7) rfl ?_ (Steps.cons 7 (j := 8) rfl ?_ (Steps.cons 8 (j := 9) rfl ?_ (Steps.cons 9 (j := 10) rfl ?_ (Steps.cons 10 (j := 11) rfl ?_ Steps.nil))))))))))
            · intro L s w9 hN hU hi hS K hK
              dsimp only at hK ⊢
              simp only [Act.put, List.setIfInBounds_toArray, List.set_cons_zero, List.set_cons_succ] at hK
              obtain ⟨u1, u2, u3, u4⟩ := (hS.mem.k (i := 2) rfl).four
              go_simp
              exact hK.out _ _ (hS.val rfl rfl (Below.refl _ _) rfl)
            · intro L s w9 hN hU hi hS K hK
              dsimp only at hK ⊢
              simp only [Act.put, List.setIfInBounds_toArray, List.set_cons_zero, List.set_cons_succ] at hK
              have e0 : s 0 = .agg #[.bool n', .slice A' xs'.length c', .bool m', .slice B' ys'.length d'] := hS.val_at 0 rfl (by decide) (hN.out 0 rfl)
              simp only [e0] at hK ⊢
              go_simp
              go_at_call 17
              refine (theirs4_any _ _ _ _ _ _ _ _ _).mono ?_
              rintro e9 w10 ⟨rfl, q⟩
              exact hK.out _ _ (hS.val rfl rfl q rfl)
            · intro L s w9 hN hU hi hS K hK
              dsimp only at hK ⊢
              simp only [Act.put, List.setIfInBounds_toArray, List.set_cons_zero, List.set_cons_succ] at hK
              obtain ⟨u1, u2, u3, u4⟩ := (hS.mem.k (i := 1) rfl).four
              go_simp
              exact hK.out _ _ (hS.val rfl rfl (Below.refl _ _) rfl)
            · intro L s w9 hN hU hi hS K hK
              dsimp only at hK ⊢
              simp only [Act.put, List.setIfInBounds_toArray, List.set_cons_zero, List.set_cons_succ] at hK
              have e2 : s 2 = .agg #[.bool n'', .slice A'' xs''.length c'', .bool m'', .slice B'' ys''.length d''] := hS.val_at 2 rfl (by decide) (hN.out 2 rfl)
              simp only [e2] at hK ⊢
              go_simp
              go_at_call 17
              refine (theirs4_any _ _ _ _ _ _ _ _ _).mono ?_
              rintro e9 w10 ⟨rfl, q⟩
              exact hK.out _ _ (hS.val rfl rfl q rfl)
            · intro L s w9 hN hU hi hS K hK
              dsimp only at hK ⊢
              simp only [Act.put, List.setIfInBounds_toArray, List.set_cons_zero, List.set_cons_succ] at hK
              have e1 : s 1 = rv n' A' xs'.length c' m' B' ys'.length d' := hS.val_at 1 rfl (by decide) (hN.out 1 rfl)
              simp only [e1] at hK ⊢
              have e3 : s 3 = rv n'' A'' xs''.length c'' m'' B'' ys''.length d'' := hS.val_at 3 rfl (by decide) (hN.out 3 rfl)
              simp only [e3] at hK ⊢
              go_simp
              go_at_call 35
              refine (qadd_eq H4.out (hS.mem.r (i := 5) rfl) (hS.mem.r (i := 4) rfl) (hS.mem.r (i := 3) rfl) (hS.mem.r (i := 2) rfl)).mono ?_
              rintro e9 w10 ⟨⟨A0, c0, B0, d0, rfl, h0, k0⟩, q⟩
              exact hK.out _ _ (hS.val rfl rfl q ⟨A0, c0, B0, d0, rfl, h0, k0⟩)
            · intro L s w9 hN hU hi hS K hK
              dsimp only at hK ⊢
              simp only [Act.put, List.setIfInBounds_toArray, List.set_cons_zero, List.set_cons_succ] at hK
              obtain ⟨A4, c4, B4, d4, e4, h4, k4⟩ := hS.val_at 4 rfl (by decide) (hN.out 4 rfl)
              simp only [e4] at hK ⊢
              go_simp
              exact hK.out _ _ (hS.val rfl rfl (Below.refl _ _) ⟨A4, c4, B4, d4, rfl, h4, k4⟩)
            · intro L s w9 hN hU hi hS K hK
              dsimp only at hK ⊢
              simp only [Act.put, List.setIfInBounds_toArray, List.set_cons_zero, List.set_cons_succ] at hK
              obtain ⟨A5, c5, B5, d5, e5, h5, k5⟩ := hS.val_at 5 rfl (by decide) (hN.out 5 rfl)
              simp only [e5] at hK ⊢
              go_simp
              exact hK.out _ _ (hS.val rfl rfl (Below.refl _ _) ⟨A5, c5, B5, d5, rfl, h5, k5⟩)
            · intro L s w9 hN hU hi hS K hK
              dsimp only at hK ⊢
              simp only [Act.put, List.setIfInBounds_toArray, List.set_cons_zero, List.set_cons_succ] at hK
              obtain ⟨A5, c5, B5, d5, e5, h5, k5⟩ := hS.val_at 5 rfl (by decide) (hN.out 5 rfl)
              simp only [e5] at hK ⊢
              go_simp
              exact hK.out _ _ (hS.val rfl rfl (Below.refl _ _) rfl)
            · intro L s w9 hN hU hi hS K hK
              dsimp only at hK ⊢
              simp only [Act.put, List.setIfInBounds_toArray, List.set_cons_zero, List.set_cons_succ] at hK
              go_simp
              exact hK.out _ _ (hS.new rfl rfl hi.out (fun _ => hU.out 9 _ rfl rfl) rfl)
            · intro L s w9 hN hU hi hS K hK
              dsimp only at hK ⊢
              simp only [Act.put, List.setIfInBounds_toArray, List.set_cons_zero, List.set_cons_succ] at hK
              obtain ⟨A6, c6, B6, d6, e6, h6, k6⟩ := hS.val_at 6 rfl (by decide) (hN.out 6 rfl)
              simp only [e6] at hK ⊢
              obtain ⟨g9, cs9, e9, l9, b9, n9, z9, _⟩ := hS.cell_at 8 rfl (by decide) (hN.out 8 rfl)
              obtain rfl := z9 hi.out
              simp only [e9] at hK ⊢
              refine ite_of rfl ?_
              refine wp_store_row _ _ _ rfl g9 _ rfl rfl _ _ b9 info_rat rfl (by rw [← Array.all_toList]; rfl) ?_
              simp only [Act.put]
              exact hK.out undef _ (hS.fill (u := undef) (c := .rat (t1) (t2) (t3) (t4)) rfl rfl (by decide) rfl (hN.out 8 rfl) hi.out e9 (setRow_grown _ _ _) (b9.row _) rfl ⟨A6, c6, B6, d6, rfl, h6, k6⟩)
            · intro L s w9 hN hU hi hS K hK
              dsimp only at hK ⊢
              simp only [Act.put, List.setIfInBounds_toArray, List.set_cons_zero, List.set_cons_succ] at hK
              have e7 : s 7 = .int .i64 0 := hS.val_at 7 rfl (by decide) (hN.out 7 rfl)
              simp only [e7] at hK ⊢
              go_simp
              exact hK.out _ _ (hS.val rfl rfl (Below.refl _ _) rfl)
          intro L s w9 hall hS
          obtain ⟨g8, cs8, e8, l8, b8, n8, _, z8⟩ := hS.cell_at 8 rfl (by decide) (hall 8 (by decide))
          obtain ⟨A8, c8, B8, d8, rfl, h8, k8⟩ := z8 (hall 9 (by decide))
          rw [e8]
          have e10 := hS.val_at 10 rfl (by decide) (hall 10 (by decide))
          go_wp2_with fail
          go_meet
          exact ⟨_, A8, B8, c8, d8, rfl, e10, ((hS.mem.addR k8).addR h8).addK b8⟩
        case rest =>
          clear M
          obtain ⟨g13, A13, B13, c13, d13, rfl, rfl, M⟩ := hcut
          obtain ⟨v1, v2, v3, v4⟩ := (M.k (i := 0) rfl).four
          obtain ⟨v5, v6, v7, v8⟩ := (M.k (i := 1) rfl).four
          go_wp2_with fail
          refine (qcmp_eq H5.out (M.r (i := 2) rfl) (M.r (i := 3) rfl) (M.r (i := 0) rfl) (M.r (i := 1) rfl)).mono ?_
          rintro e y9 ⟨rfl, q⟩
          replace M := M.below q
          clear q v1 v2 v3 v4 v5 v6 v7 v8
          obtain ⟨v1, v2, v3, v4⟩ := (M.k (i := 4) rfl).four
          obtain ⟨v5, v6, v7, v8⟩ := (M.k (i := 3) rfl).four
          rcases X.out with rfl | rfl | rfl
          all_goals
            go_wp2_with fail
            refine (rqsame_any (M.r (i := 9) rfl) (M.r (i := 8) rfl) (M.r (i := 7) rfl) (M.r (i := 6) rfl) l1 l2 l3 l4).mono ?_
            rw [H6.out]
            rintro e y10 ⟨rfl, q⟩
            replace M := M.below q
            go_wp2
            go_ret
            exact ⟨rfl, M.bel⟩
end Go.Proofs.Ytdhikpfppbcjkaa

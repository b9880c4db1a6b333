/-
  The walk of the law SignedDivs.
-/
import Derived.Test.YtmhjjjffgpdolaaLsD
import Derived.Test.YtmhjjjffgpdolaaReg
set_option linter.unusedSimpArgs false
set_option linter.unusedVariables false
namespace Go.Proofs.Ytmhjjjffgpdolaa
open Go.RowKit Num

theorem sgcd_eq' {n m : Bool} {A B : Option Addr} {c d : Nat} {xs ys : List Nat} {w : World} {r : R3} (h : sgcdR n xs m ys = r) (ha : Rd w A c xs) (hb : Rd w B d ys) :
    Calls Try.prog 16 #[iv n A xs.length c, iv m B ys.length d] w fun e w' => RetI w w' e r := by
  subst h
  exact sgcd_any n m A B c d xs ys w ha hb
theorem rsdiv_eq' {n m : Bool} {A B : Option Addr} {c d : Nat} {xs ys : List Nat} {w : World} {r : R5} (h : sdivR n xs m ys = r) (ha : Rd w A c xs) (hb : Rd w B d ys) :
    Calls Try.prog 15 #[iv n A xs.length c, iv m B ys.length d] w fun e w' => RetII w w' e r := by
  subst h
  exact rsdivmod_any n m A B c d xs ys w ha hb
theorem rsgcd_eq' {n m : Bool} {A B : Option Addr} {c d : Nat} {xs ys : List Nat} {w : World} {r : R3} (h : sgcdR n xs m ys = r) (ha : Rd w A c xs) (hb : Rd w B d ys) :
    Calls Try.prog 17 #[iv n A xs.length c, iv m B ys.length d] w fun e w' => RetI w w' e r := by
  subst h
  exact rsgcd_any n m A B c d xs ys w ha hb
theorem fmod_abs {n m : Bool} {a b : Nat} (hb : 0 < b) : (Int.fmod (zn n a) (zn m b)).natAbs ≤ b := by
  have hlt := Nat.mod_lt a hb
  rcases Bool.eq_false_or_eq_true (n == m) with hnm | hnm
  · obtain rfl : n = m := by simpa using hnm
    obtain ⟨_, e2⟩ := fdiv_same n a b hb
    unfold zn
    rw [e2]
    cases n <;> simp <;> omega
  · obtain rfl : m = !n := by cases n <;> cases m <;> simp at hnm ⊢
    by_cases h : a % b = 0
    · obtain ⟨_, e2⟩ := fdiv_zero n a b hb h
      unfold zn
      rw [e2]
      simp
    · obtain ⟨_, e2⟩ := fdiv_down n a b hb h
      unfold zn
      rw [e2]
      cases n <;> simp <;> omega
theorem sdivR_len (n m : Bool) (xs ys : List Nat) (ho' : Ok ys) (h : ys.length ≤ 30) : (sdivR n xs m ys).2.1.length ≤ 256 ∧ (sdivR n xs m ys).2.2.2.1.length ≤ 30 := by
  unfold sdivR
  split
  · rename_i h1
    simp only [Bool.and_eq_true, decide_eq_true_eq] at h1
    split
    · rename_i h2
      refine ⟨h2, ?_⟩
      show (sD (Int.fmod (sv n xs) (sv m ys))).length ≤ 30
      rw [sv_zn, sv_zn]
      exact Nat.le_trans (Nat.le_trans (dig_len_mono (fmod_abs (val_pos_right ho' (sright_rightB h1.1.2) h1.2))) (dig_len_le ys ho')) h
    · exact ⟨Nat.zero_le _, Nat.zero_le _⟩
  · exact ⟨Nat.zero_le _, Nat.zero_le _⟩
theorem gcd_len {xs ys : List Nat} (ho : Ok xs) (ho' : Ok ys) (h : xs.length ≤ 30) (h' : ys.length ≤ 30) : (dig (Nat.gcd (val xs) (val ys))).length ≤ 30 := by
  rcases Nat.eq_zero_or_pos (val xs) with h0 | h0
  · rw [h0, Nat.gcd_zero_left]
    exact Nat.le_trans (dig_len_le ys ho') h'
  · exact Nat.le_trans (Nat.le_trans (dig_len_mono (Nat.gcd_le_left _ h0)) (dig_len_le xs ho)) h
theorem sgcdR_len (n m : Bool) (xs ys : List Nat) (ho : Ok xs) (ho' : Ok ys) (h : xs.length ≤ 30) (h' : ys.length ≤ 30) : (sgcdR n xs m ys).2.1.length ≤ 30 := by
  unfold sgcdR
  split
  · exact gcd_len ho ho' h h'
  · exact Nat.zero_le _
set_option maxRecDepth 100000 in
set_option maxHeartbeats 2000000 in
theorem signedDivs_use (w : World) (n : Bool) (A : Option Addr) (c : Nat) (xs : List Nat) (ha : Rd w A c xs) (m : Bool) (B : Option Addr) (d : Nat) (ys : List Nat) (hb : Rd w B d ys) :
    Calls Try.prog 3 #[iv n A xs.length c, iv m B ys.length d] w fun e w' => e = .returned (.bool true) ∧ Below w.heap.size w w' := by
  have hox := ha.ok
  have hoy := hb.ok
  have M : Mem w ((w.alloc (.cells #[.bool n, .slice A xs.length c] 24)).alloc (.cells #[.bool m, .slice B ys.length d] 24)) [(w.heap.size + 1, 24, #[.bool m, .slice B ys.length d]), (w.heap.size, 24, #[.bool n, .slice A xs.length c])] [(B, d, ys), (A, c, xs)] :=
    (((((Mem.start w).addR ha).addR hb).new 24 #[.bool n, .slice A xs.length c]).newAt (by simp) 24 #[.bool m, .slice B ys.length d])
  clear ha hb
  by_cases hf : xs.length ≤ 30 ∧ ys.length ≤ 30
  case neg =>
    have HF : Hid (decide (xs.length ≤ 30 ∧ ys.length ≤ 30) = false) := decide_eq_false hf
    clear hf
    go_enter Try.func3, Try.ntmps3
    go_wp2_with fail
    refine (salive_any _).mono ?_
    rintro e w1 ⟨rfl, q⟩
    replace M := M.below q
    clear q
    obtain ⟨v1, v2, _, _⟩ := (M.k (i := 1) rfl).both
    obtain ⟨v3, v4, _, _⟩ := (M.k (i := 0) rfl).both
    go_wp2_with fail
    refine (few2 rfl (M.r (i := 1) rfl) (M.r (i := 0) rfl)).mono ?_
    rw [HF.out]
    rintro e w2 ⟨rfl, q⟩
    replace M := M.below q
    clear q v1 v2 v3 v4
    go_wp2
    go_ret
    exact ⟨rfl, M.bel⟩
  have HF : Hid (decide (xs.length ≤ 30 ∧ ys.length ≤ 30) = true) := decide_eq_true hf
  have hf1 := hf.1
  have hf2 := hf.2
  clear hf
  go_enter Try.func3, Try.ntmps3
  go_wp2_with fail
  refine (salive_any _).mono ?_
  rintro e w1 ⟨rfl, q⟩
  replace M := M.below q
  clear q
  obtain ⟨v1, v2, _, _⟩ := (M.k (i := 1) rfl).both
  obtain ⟨v3, v4, _, _⟩ := (M.k (i := 0) rfl).both
  go_wp2_with fail
  refine (few2 rfl (M.r (i := 1) rfl) (M.r (i := 0) rfl)).mono ?_
  rw [HF.out]
  rintro e w2 ⟨rfl, q⟩
  replace M := M.below q
  clear q v1 v2 v3 v4
  have hdl := sdivR_len n m xs ys hoy hf2
  have hgl := sgcdR_len n m xs ys hox hoy hf1 hf2
  generalize hR : sdivR n xs m ys = r at hdl
  have HR := Lib.hid hR
  clear hR
  obtain ⟨p1, p2, p3, p4, p5⟩ := r
  generalize hG : sgcdR n xs m ys = r at hgl
  have HG := Lib.hid hG
  clear hG
  obtain ⟨t1, t2, t3⟩ := r
  have l1 : p2.length ≤ 1000000 := Nat.le_trans hdl.1 (by decide)
  have l2 : p4.length ≤ 1000000 := Nat.le_trans hdl.2 (by decide)
  have l3 : t2.length ≤ 1000000 := Nat.le_trans hgl (by decide)
  clear hdl hgl hox hoy
  go_upto_region 5 with fail
  go_cut [5, 6, 7] (fun s5 s6 s7 wx => ∃ (g5 g6 : Nat) (A5 A6 : Option Addr) (c5 c6 : Nat), s5 = .pointer (some ⟨g5, 0, none⟩) ∧ s6 = .pointer (some ⟨g6, 0, none⟩) ∧ s7 = .int .i64 p5 ∧ Mem w wx [(g6, 27, #[.bool p3, .slice A6 p4.length c6]), (g5, 27, #[.bool p1, .slice A5 p2.length c5]), (w.heap.size + 1, 24, #[.bool m, .slice B ys.length d]), (w.heap.size, 24, #[.bool n, .slice A xs.length c])] [(A6, c6, p4), (A5, c5, p2), (B, d, ys), (A, c, xs)])
  case first =>
    refine region_st (n := 14) (frame := ?frame1) (fun j => [.val (.fix (iv n A xs.length c)), .val (.fix (iv n A xs.length c)), .val (.fix (iv m B ys.length d)), .val (.fix (iv m B ys.length d)), .val (.rii (p1, p2, p3, p4, p5)), .val (.rii (p1, p2, p3, p4, p5)), .val (.num p1 p2), .val (.num p3 p4), .val (.fix (.int .i64 p5)), .cell 11 27 #[.bool false, .slice none 0 0] (.num (p1) (p2)), .cell 12 27 #[.bool false, .slice none 0 0] (.num (p3) (p4)), .none, .none, .val (.fix (.int .i64 p5))].getD j .none) [] (by kernel_rfl) (by kernel_rfl) (by kernel_rfl) rfl M (fun _ h => by cases h) (fun _ h => by cases h) ?_ ?_ ?_
    case refine_1 =>
      intro s
      simp only [fr, Act.put, List.append_eq, List.cons_append, List.nil_append, List.setIfInBounds_toArray, List.set_cons_zero, List.set_cons_succ, Nat.reduceAdd]
      rfl
    case refine_2 =>
      refine Steps.cons 0 (j := 1) rfl ?_ (Steps.cons 1 (j := 2) rfl ?_ (Steps.cons 2 (j := 3) rfl ?_ (Steps.cons 3 (j := 4) rfl ?_ (Steps.cons 4 (j := 5) rfl ?_ (Steps.cons 5 (j := 6) rfl ?_ (Steps.cons 6 (j := 7) rfl ?_ (Steps.cons 7 (j := 8) rfl ?_ (Steps.cons 8 (j := 9) rfl ?_ (Steps.cons 9 (j := 10) rfl ?_ (Steps.cons 10 (j := 11) rfl ?_ (Steps.cons 11 (j := 12) rfl ?_ (Steps.cons 12 (j := 13) rfl ?_ (Steps.cons 13 (j := 14) rfl ?_ Steps.nil)))))))))))))
      · intro L s w9 hN hU hi hS K hK
        dsimp only at hK ⊢
        simp only [Act.put, List.setIfInBounds_toArray, List.set_cons_zero, List.set_cons_succ] at hK
        obtain ⟨u1, u2, _, _⟩ := (hS.mem.k (i := 1) rfl).both
        go_simp
        exact hK.out _ _ (hS.val rfl rfl (Below.refl _ _) rfl)
      · intro L s w9 hN hU hi hS K hK
        dsimp only at hK ⊢
        simp only [Act.put, List.setIfInBounds_toArray, List.set_cons_zero, List.set_cons_succ] at hK
        have e0 : s 0 = iv n A xs.length c := hS.val_at 0 rfl (by decide) (hN.out 0 rfl)
        simp only [e0] at hK ⊢
        go_simp
        go_at_call 14
        refine (theirs_any _ _ _ _ _).mono ?_
        rintro e9 w10 ⟨rfl, q⟩
        exact hK.out _ _ (hS.val rfl rfl q rfl)
      · intro L s w9 hN hU hi hS K hK
        dsimp only at hK ⊢
        simp only [Act.put, List.setIfInBounds_toArray, List.set_cons_zero, List.set_cons_succ] at hK
        obtain ⟨u1, u2, _, _⟩ := (hS.mem.k (i := 0) rfl).both
        go_simp
        exact hK.out _ _ (hS.val rfl rfl (Below.refl _ _) rfl)
      · intro L s w9 hN hU hi hS K hK
        dsimp only at hK ⊢
        simp only [Act.put, List.setIfInBounds_toArray, List.set_cons_zero, List.set_cons_succ] at hK
        have e2 : s 2 = iv m B ys.length d := hS.val_at 2 rfl (by decide) (hN.out 2 rfl)
        simp only [e2] at hK ⊢
        go_simp
        go_at_call 14
        refine (theirs_any _ _ _ _ _).mono ?_
        rintro e9 w10 ⟨rfl, q⟩
        exact hK.out _ _ (hS.val rfl rfl q rfl)
      · intro L s w9 hN hU hi hS K hK
        dsimp only at hK ⊢
        simp only [Act.put, List.setIfInBounds_toArray, List.set_cons_zero, List.set_cons_succ] at hK
        have e1 : s 1 = iv n A xs.length c := hS.val_at 1 rfl (by decide) (hN.out 1 rfl)
        simp only [e1] at hK ⊢
        have e3 : s 3 = iv m B ys.length d := hS.val_at 3 rfl (by decide) (hN.out 3 rfl)
        simp only [e3] at hK ⊢
        go_simp
        go_at_call 13
        refine (sdiv_eq' HR.out (hS.mem.r (i := 1) rfl) (hS.mem.r (i := 0) rfl)).mono ?_
        rintro e9 w10 ⟨⟨A2, c2, B2, d2, rfl, h2, h3⟩, q⟩
        exact hK.out _ _ (hS.val rfl rfl q ⟨A2, c2, B2, d2, rfl, h2, h3⟩)
      · intro L s w9 hN hU hi hS K hK
        dsimp only at hK ⊢
        simp only [Act.put, List.setIfInBounds_toArray, List.set_cons_zero, List.set_cons_succ] at hK
        obtain ⟨A4, c4, B4, d4, e4, h4, k4⟩ := hS.val_at 4 rfl (by decide) (hN.out 4 rfl)
        simp only [e4] at hK ⊢
        go_simp
        exact hK.out _ _ (hS.val rfl rfl (Below.refl _ _) ⟨A4, c4, B4, d4, rfl, h4, k4⟩)
      · intro L s w9 hN hU hi hS K hK
        dsimp only at hK ⊢
        simp only [Act.put, List.setIfInBounds_toArray, List.set_cons_zero, List.set_cons_succ] at hK
        obtain ⟨A5, c5, B5, d5, e5, h5, k5⟩ := hS.val_at 5 rfl (by decide) (hN.out 5 rfl)
        simp only [e5] at hK ⊢
        go_simp
        exact hK.out _ _ (hS.val rfl rfl (Below.refl _ _) ⟨A5, c5, rfl, h5⟩)
      · intro L s w9 hN hU hi hS K hK
        dsimp only at hK ⊢
        simp only [Act.put, List.setIfInBounds_toArray, List.set_cons_zero, List.set_cons_succ] at hK
        obtain ⟨A5, c5, B5, d5, e5, h5, k5⟩ := hS.val_at 5 rfl (by decide) (hN.out 5 rfl)
        simp only [e5] at hK ⊢
        go_simp
        exact hK.out _ _ (hS.val rfl rfl (Below.refl _ _) ⟨B5, d5, rfl, k5⟩)
      · intro L s w9 hN hU hi hS K hK
        dsimp only at hK ⊢
        simp only [Act.put, List.setIfInBounds_toArray, List.set_cons_zero, List.set_cons_succ] at hK
        obtain ⟨A5, c5, B5, d5, e5, h5, k5⟩ := hS.val_at 5 rfl (by decide) (hN.out 5 rfl)
        simp only [e5] at hK ⊢
        go_simp
        exact hK.out _ _ (hS.val rfl rfl (Below.refl _ _) rfl)
      · intro L s w9 hN hU hi hS K hK
        dsimp only at hK ⊢
        simp only [Act.put, List.setIfInBounds_toArray, List.set_cons_zero, List.set_cons_succ] at hK
        go_simp
        exact hK.out _ _ (hS.new rfl rfl hi.out (fun _ => hU.out 11 _ rfl rfl) rfl)
      · intro L s w9 hN hU hi hS K hK
        dsimp only at hK ⊢
        simp only [Act.put, List.setIfInBounds_toArray, List.set_cons_zero, List.set_cons_succ] at hK
        go_simp
        exact hK.out _ _ (hS.new rfl rfl hi.out (fun _ => hU.out 12 _ rfl rfl) rfl)
      · intro L s w9 hN hU hi hS K hK
        dsimp only at hK ⊢
        simp only [Act.put, List.setIfInBounds_toArray, List.set_cons_zero, List.set_cons_succ] at hK
        obtain ⟨A6, c6, e6, h6⟩ := hS.val_at 6 rfl (by decide) (hN.out 6 rfl)
        simp only [e6] at hK ⊢
        obtain ⟨g9, cs9, e9, l9, b9, n9, z9, _⟩ := hS.cell_at 9 rfl (by decide) (hN.out 9 rfl)
        obtain rfl := z9 hi.out
        simp only [e9] at hK ⊢
        refine ite_of rfl ?_
        refine wp_store_row _ _ _ rfl g9 _ rfl rfl _ _ b9 info_int rfl (by rw [← Array.all_toList]; rfl) ?_
        simp only [Act.put]
        exact hK.out undef _ (hS.fill (u := undef) (c := .num (p1) (p2)) rfl rfl (by decide) rfl (hN.out 9 rfl) hi.out e9 (setRow_grown _ _ _) (b9.row _) rfl ⟨A6, c6, rfl, h6⟩)
      · intro L s w9 hN hU hi hS K hK
        dsimp only at hK ⊢
        simp only [Act.put, List.setIfInBounds_toArray, List.set_cons_zero, List.set_cons_succ] at hK
        obtain ⟨A7, c7, e7, h7⟩ := hS.val_at 7 rfl (by decide) (hN.out 7 rfl)
        simp only [e7] at hK ⊢
        obtain ⟨g9, cs9, e9, l9, b9, n9, z9, _⟩ := hS.cell_at 10 rfl (by decide) (hN.out 10 rfl)
        obtain rfl := z9 hi.out
        simp only [e9] at hK ⊢
        refine ite_of rfl ?_
        refine wp_store_row _ _ _ rfl g9 _ rfl rfl _ _ b9 info_int rfl (by rw [← Array.all_toList]; rfl) ?_
        simp only [Act.put]
        exact hK.out undef _ (hS.fill (u := undef) (c := .num (p3) (p4)) rfl rfl (by decide) rfl (hN.out 10 rfl) hi.out e9 (setRow_grown _ _ _) (b9.row _) rfl ⟨A7, c7, rfl, h7⟩)
      · intro L s w9 hN hU hi hS K hK
        dsimp only at hK ⊢
        simp only [Act.put, List.setIfInBounds_toArray, List.set_cons_zero, List.set_cons_succ] at hK
        have e8 : s 8 = .int .i64 p5 := hS.val_at 8 rfl (by decide) (hN.out 8 rfl)
        simp only [e8] at hK ⊢
        go_simp
        exact hK.out _ _ (hS.val rfl rfl (Below.refl _ _) rfl)
    intro L s w9 hall hS
    obtain ⟨g9, cs9, e9, l9, b9, n9, _, z9⟩ := hS.cell_at 9 rfl (by decide) (hall 9 (by decide))
    obtain ⟨A9, c9, rfl, h9⟩ := z9 (hall 11 (by decide))
    rw [e9]
    obtain ⟨g10, cs10, e10, l10, b10, n10, _, z10⟩ := hS.cell_at 10 rfl (by decide) (hall 10 (by decide))
    obtain ⟨A10, c10, rfl, h10⟩ := z10 (hall 12 (by decide))
    rw [e10]
    have e13 := hS.val_at 13 rfl (by decide) (hall 13 (by decide))
    go_wp2_with fail
    go_meet
    exact ⟨_, _, A9, A10, c9, c10, rfl, rfl, e13, (((hS.mem.addR h9).addK b9).addR h10).addK b10⟩
  case rest =>
    obtain ⟨g5, g6, A5, A6, c5, c6, rfl, rfl, rfl, M⟩ := hcut
    obtain ⟨v1, v2, _, _⟩ := (M.k (i := 3) rfl).both
    obtain ⟨v3, v4, _, _⟩ := (M.k (i := 2) rfl).both
    go_wp2_with fail
    refine (rsdiv_eq' HR.out (M.r (i := 3) rfl) (M.r (i := 2) rfl)).mono ?_
    rintro e w6 ⟨⟨A7, c7, B7, d7, rfl, h, k⟩, q⟩
    replace M := ((((M.below q).addR h).addR k).new 24 #[.bool p1, .slice A7 p2.length c7]).newAt (g := w6.heap.size + 1) (by simp) 24 #[.bool p3, .slice B7 p4.length d7]
    clear q h k v1 v2 v3 v4
    go_upto_region 7 with fail
    generalize hw6 : w6.heap.size = z6 at *
    generalize (w6.alloc (.cells #[.bool p1, .slice A7 p2.length c7] 24)).alloc (.cells #[.bool p3, .slice B7 p4.length d7] 24) = W at *
    go_cut [11, 12] (fun s11 s12 wx => ∃ (g11 : Nat) (A11 : Option Addr) (c11 : Nat), s11 = .pointer (some ⟨g11, 0, none⟩) ∧ s12 = .int .i64 t3 ∧ Mem w wx [(g11, 27, #[.bool t1, .slice A11 t2.length c11]), (z6 + 1, 24, #[.bool p3, .slice B7 p4.length d7]), (z6, 24, #[.bool p1, .slice A7 p2.length c7]), (g6, 27, #[.bool p3, .slice A6 p4.length c6]), (g5, 27, #[.bool p1, .slice A5 p2.length c5]), (w.heap.size + 1, 24, #[.bool m, .slice B ys.length d]), (w.heap.size, 24, #[.bool n, .slice A xs.length c])] [(A11, c11, t2), (B7, d7, p4), (A7, c7, p2), (A6, c6, p4), (A5, c5, p2), (B, d, ys), (A, c, xs)])
    case first =>
      refine region_st (n := 11) (frame := ?frame2) (fun j => [.val (.fix (iv n A xs.length c)), .val (.fix (iv n A xs.length c)), .val (.fix (iv m B ys.length d)), .val (.fix (iv m B ys.length d)), .val (.ri (t1, t2, t3)), .val (.ri (t1, t2, t3)), .val (.num t1 t2), .val (.fix (.int .i64 t3)), .cell 9 27 #[.bool false, .slice none 0 0] (.num (t1) (t2)), .none, .val (.fix (.int .i64 t3))].getD j .none) [] (by kernel_rfl) (by kernel_rfl) (by kernel_rfl) rfl M (fun _ h => by cases h) (fun _ h => by cases h) ?_ ?_ ?_
      case refine_1 =>
        intro s
        simp only [fr, Act.put, List.append_eq, List.cons_append, List.nil_append, List.setIfInBounds_toArray, List.set_cons_zero, List.set_cons_succ, Nat.reduceAdd]
        rfl
      case refine_2 =>
        refine Steps.cons 0 (j := 1) rfl ?_ (Steps.cons 1 (j := 2) rfl ?_ (Steps.cons 2 (j := 3) rfl ?_ (Steps.cons 3 (j := 4) rfl ?_ (Steps.cons 4 (j := 5) rfl ?_ (Steps.cons 5 (j := 6) rfl ?_ (Steps.cons 6 (j := 7) rfl ?_ (Steps.cons 7 (j := 8) rfl ?_ (Steps.cons 8 (j := 9) rfl ?_ (Steps.cons 9 (j := 10) rfl ?_ (Steps.cons 10 (j := 11) rfl ?_ Steps.nil))))))))))
        · intro L s w9 hN hU hi hS K hK
          dsimp only at hK ⊢
          simp only [Act.put, List.setIfInBounds_toArray, List.set_cons_zero, List.set_cons_succ] at hK
          obtain ⟨u1, u2, _, _⟩ := (hS.mem.k (i := 5) rfl).both
          go_simp
          exact hK.out _ _ (hS.val rfl rfl (Below.refl _ _) rfl)
        · intro L s w9 hN hU hi hS K hK
          dsimp only at hK ⊢
          simp only [Act.put, List.setIfInBounds_toArray, List.set_cons_zero, List.set_cons_succ] at hK
          have e0 : s 0 = iv n A xs.length c := hS.val_at 0 rfl (by decide) (hN.out 0 rfl)
          simp only [e0] at hK ⊢
          go_simp
          go_at_call 14
          refine (theirs_any _ _ _ _ _).mono ?_
          rintro e9 w10 ⟨rfl, q⟩
          exact hK.out _ _ (hS.val rfl rfl q rfl)
        · intro L s w9 hN hU hi hS K hK
          dsimp only at hK ⊢
          simp only [Act.put, List.setIfInBounds_toArray, List.set_cons_zero, List.set_cons_succ] at hK
          obtain ⟨u1, u2, _, _⟩ := (hS.mem.k (i := 4) rfl).both
          go_simp
          exact hK.out _ _ (hS.val rfl rfl (Below.refl _ _) rfl)
        · intro L s w9 hN hU hi hS K hK
          dsimp only at hK ⊢
          simp only [Act.put, List.setIfInBounds_toArray, List.set_cons_zero, List.set_cons_succ] at hK
          have e2 : s 2 = iv m B ys.length d := hS.val_at 2 rfl (by decide) (hN.out 2 rfl)
          simp only [e2] at hK ⊢
          go_simp
          go_at_call 14
          refine (theirs_any _ _ _ _ _).mono ?_
          rintro e9 w10 ⟨rfl, q⟩
          exact hK.out _ _ (hS.val rfl rfl q rfl)
        · intro L s w9 hN hU hi hS K hK
          dsimp only at hK ⊢
          simp only [Act.put, List.setIfInBounds_toArray, List.set_cons_zero, List.set_cons_succ] at hK
          have e1 : s 1 = iv n A xs.length c := hS.val_at 1 rfl (by decide) (hN.out 1 rfl)
          simp only [e1] at hK ⊢
          have e3 : s 3 = iv m B ys.length d := hS.val_at 3 rfl (by decide) (hN.out 3 rfl)
          simp only [e3] at hK ⊢
          go_simp
          go_at_call 16
          refine (sgcd_eq' HG.out (hS.mem.r (i := 5) rfl) (hS.mem.r (i := 4) rfl)).mono ?_
          rintro e9 w10 ⟨⟨A2, c2, rfl, h2⟩, q⟩
          exact hK.out _ _ (hS.val rfl rfl q ⟨A2, c2, rfl, h2⟩)
        · intro L s w9 hN hU hi hS K hK
          dsimp only at hK ⊢
          simp only [Act.put, List.setIfInBounds_toArray, List.set_cons_zero, List.set_cons_succ] at hK
          obtain ⟨A4, c4, e4, h4⟩ := hS.val_at 4 rfl (by decide) (hN.out 4 rfl)
          simp only [e4] at hK ⊢
          go_simp
          exact hK.out _ _ (hS.val rfl rfl (Below.refl _ _) ⟨A4, c4, rfl, h4⟩)
        · intro L s w9 hN hU hi hS K hK
          dsimp only at hK ⊢
          simp only [Act.put, List.setIfInBounds_toArray, List.set_cons_zero, List.set_cons_succ] at hK
          obtain ⟨A5, c5, e5, h5⟩ := hS.val_at 5 rfl (by decide) (hN.out 5 rfl)
          simp only [e5] at hK ⊢
          go_simp
          exact hK.out _ _ (hS.val rfl rfl (Below.refl _ _) ⟨A5, c5, rfl, h5⟩)
        · intro L s w9 hN hU hi hS K hK
          dsimp only at hK ⊢
          simp only [Act.put, List.setIfInBounds_toArray, List.set_cons_zero, List.set_cons_succ] at hK
          obtain ⟨A5, c5, e5, h5⟩ := hS.val_at 5 rfl (by decide) (hN.out 5 rfl)
          simp only [e5] at hK ⊢
          go_simp
          exact hK.out _ _ (hS.val rfl rfl (Below.refl _ _) rfl)
        · intro L s w9 hN hU hi hS K hK
          dsimp only at hK ⊢
          simp only [Act.put, List.setIfInBounds_toArray, List.set_cons_zero, List.set_cons_succ] at hK
          go_simp
          exact hK.out _ _ (hS.new rfl rfl hi.out (fun _ => hU.out 9 _ rfl rfl) rfl)
        · intro L s w9 hN hU hi hS K hK
          dsimp only at hK ⊢
          simp only [Act.put, List.setIfInBounds_toArray, List.set_cons_zero, List.set_cons_succ] at hK
          obtain ⟨A6, c6, e6, h6⟩ := hS.val_at 6 rfl (by decide) (hN.out 6 rfl)
          simp only [e6] at hK ⊢
          obtain ⟨g9, cs9, e9, l9, b9, n9, z9, _⟩ := hS.cell_at 8 rfl (by decide) (hN.out 8 rfl)
          obtain rfl := z9 hi.out
          simp only [e9] at hK ⊢
          refine ite_of rfl ?_
          refine wp_store_row _ _ _ rfl g9 _ rfl rfl _ _ b9 info_int rfl (by rw [← Array.all_toList]; rfl) ?_
          simp only [Act.put]
          exact hK.out undef _ (hS.fill (u := undef) (c := .num (t1) (t2)) rfl rfl (by decide) rfl (hN.out 8 rfl) hi.out e9 (setRow_grown _ _ _) (b9.row _) rfl ⟨A6, c6, rfl, h6⟩)
        · intro L s w9 hN hU hi hS K hK
          dsimp only at hK ⊢
          simp only [Act.put, List.setIfInBounds_toArray, List.set_cons_zero, List.set_cons_succ] at hK
          have e7 : s 7 = .int .i64 t3 := hS.val_at 7 rfl (by decide) (hN.out 7 rfl)
          simp only [e7] at hK ⊢
          go_simp
          exact hK.out _ _ (hS.val rfl rfl (Below.refl _ _) rfl)
      intro L s w9 hall hS
      obtain ⟨g8, cs8, e8, l8, b8, n8, _, z8⟩ := hS.cell_at 8 rfl (by decide) (hall 8 (by decide))
      obtain ⟨A8, c8, rfl, h8⟩ := z8 (hall 9 (by decide))
      rw [e8]
      have e10 := hS.val_at 10 rfl (by decide) (hall 10 (by decide))
      go_wp2_with fail
      go_meet
      exact ⟨_, A8, c8, rfl, e10, (hS.mem.addR h8).addK b8⟩
    case rest =>
      obtain ⟨g11, A11, c11, rfl, rfl, M⟩ := hcut
      obtain ⟨v1, v2, _, _⟩ := (M.k (i := 6) rfl).both
      obtain ⟨v3, v4, _, _⟩ := (M.k (i := 5) rfl).both
      go_wp2_with fail
      refine (rsgcd_eq' HG.out (M.r (i := 6) rfl) (M.r (i := 5) rfl)).mono ?_
      rintro e w8 ⟨⟨A8, c8, rfl, h⟩, q⟩
      replace M := ((M.below q).addR h).new 24 #[.bool t1, .slice A8 t2.length c8]
      clear q h v1 v2 v3 v4
      go_upto_region 9 with fail
      refine region_st (n := 27) (frame := ?frame3) (fun j => [.val (.fix (iv p1 A5 p2.length c5)), .val (.fix (iv p1 A5 p2.length c5)), .val (.fix (iv p1 A7 p2.length c7)), .val (.fix (.bool true)), .val (.fix (.bool true)), .val (.fix (iv p3 A6 p4.length c6)), .val (.fix (iv p3 A6 p4.length c6)), .val (.fix (iv p3 B7 p4.length d7)), .val (.fix (.bool true)), .val (.fix (.bool true)), .val (.fix (.bool true)), .val (.fix (.int .i64 p5)), .val (.fix (.int .i64 p5)), .val (.fix (.bool true)), .val (.fix (.bool true)), .val (.fix (.bool true)), .val (.fix (iv t1 A11 t2.length c11)), .val (.fix (iv t1 A11 t2.length c11)), .val (.fix (iv t1 A8 t2.length c8)), .val (.fix (.bool true)), .val (.fix (.bool true)), .val (.fix (.bool true)), .val (.fix (.int .i64 t3)), .val (.fix (.int .i64 t3)), .val (.fix (.bool true)), .val (.fix (.bool true)), .val (.fix (.bool true))].getD j .none) [] (by kernel_rfl) (by kernel_rfl) (by kernel_rfl) rfl M (fun _ h => by cases h) (fun _ h => by cases h) ?_ ?_ ?_
      case refine_1 =>
        intro s
        simp only [fr, Act.put, List.append_eq, List.cons_append, List.nil_append, List.setIfInBounds_toArray, List.set_cons_zero, List.set_cons_succ, Nat.reduceAdd]
        rfl
      case refine_2 =>
        refine Steps.cons 0 (j := 1) rfl ?_ (Steps.cons 1 (j := 2) rfl ?_ (Steps.cons 2 (j := 3) rfl ?_ (Steps.cons 3 (j := 4) rfl ?_ (Steps.cons 4 (j := 5) rfl ?_ (Steps.cons 5 (j := 6) rfl ?_ (Steps.cons 6 (j := 7) rfl ?_ (Steps.cons 7 (j := 8) rfl ?_ (Steps.cons 8 (j := 9) rfl ?_ (Steps.cons 9 (j := 10) rfl ?_ (Steps.cons 10 (j := 11) rfl ?_ (Steps.cons 11 (j := 12) rfl ?_ (Steps.cons 12 (j := 13) rfl ?_ (Steps.cons 13 (j := 14) rfl ?_ (Steps.cons 14 (j := 15) rfl ?_ (Steps.cons 15 (j := 16) rfl ?_ (Steps.cons 16 (j := 17) rfl ?_ (Steps.cons 17 (j := 18) rfl ?_ (Steps.cons 18 (j := 19) rfl ?_ (Steps.cons 19 (j := 20) rfl ?_ (Steps.cons 20 (j := 21) rfl ?_ (Steps.cons 21 (j := 22) rfl ?_ (Steps.cons 22 (j := 23) rfl ?_ (Steps.cons 23 (j := 24) rfl ?_ (Steps.cons 24 (j := 25) rfl ?_ (Steps.cons 25 (j := 26) rfl ?_ (Steps.cons 26 (j := 27) rfl ?_ Steps.nil))))))))))))))))))))))))))
        · intro L s w9 hN hU hi hS K hK
          dsimp only at hK ⊢
          simp only [Act.put, List.setIfInBounds_toArray, List.set_cons_zero, List.set_cons_succ] at hK
          obtain ⟨u1, u2, _, _⟩ := (hS.mem.k (i := 5) rfl).both
          go_simp
          exact hK.out _ _ (hS.val rfl (noStore_of rfl) (Below.refl _ _) rfl)
        · intro L s w9 hN hU hi hS K hK
          dsimp only at hK ⊢
          simp only [Act.put, List.setIfInBounds_toArray, List.set_cons_zero, List.set_cons_succ] at hK
          have e0 : s 0 = iv p1 A5 p2.length c5 := hS.val_at 0 rfl (by decide) (hN.out 0 rfl)
          simp only [e0] at hK ⊢
          go_simp
          go_at_call 19
          refine (ours_any _ _ _ _ _).mono ?_
          rintro e9 w10 ⟨rfl, q⟩
          exact hK.out _ _ (hS.val rfl (noStore_of rfl) q rfl)
        · intro L s w9 hN hU hi hS K hK
          dsimp only at hK ⊢
          simp only [Act.put, List.setIfInBounds_toArray, List.set_cons_zero, List.set_cons_succ] at hK
          obtain ⟨u1, u2, _, _⟩ := (hS.mem.k (i := 3) rfl).both
          go_simp
          exact hK.out _ _ (hS.val rfl (noStore_of rfl) (Below.refl _ _) rfl)
        · intro L s w9 hN hU hi hS K hK
          dsimp only at hK ⊢
          simp only [Act.put, List.setIfInBounds_toArray, List.set_cons_zero, List.set_cons_succ] at hK
          have e1 : s 1 = iv p1 A5 p2.length c5 := hS.val_at 1 rfl (by decide) (hN.out 1 rfl)
          simp only [e1] at hK ⊢
          have e2 : s 2 = iv p1 A7 p2.length c7 := hS.val_at 2 rfl (by decide) (hN.out 2 rfl)
          simp only [e2] at hK ⊢
          go_simp
          go_at_call 18
          refine (rsame_self (hS.mem.r (i := 5) rfl) (hS.mem.r (i := 3) rfl) l1).mono ?_
          rintro e9 w10 ⟨rfl, q⟩
          exact hK.out _ _ (hS.val rfl (noStore_of rfl) q rfl)
        · intro L s w9 hN hU hi hS K hK
          dsimp only at hK ⊢
          simp only [Act.put, List.setIfInBounds_toArray, List.set_cons_zero, List.set_cons_succ] at hK
          have e3 : s 3 = .bool true := hS.val_at 3 rfl (by decide) (hN.out 3 rfl)
          simp only [e3] at hK ⊢
          go_simp
          exact hK.out _ _ (hS.val rfl (noStore_of rfl) (Below.refl _ _) rfl)
        · intro L s w9 hN hU hi hS K hK
          dsimp only at hK ⊢
          simp only [Act.put, List.setIfInBounds_toArray, List.set_cons_zero, List.set_cons_succ] at hK
          have e4 : s 4 = .bool true := hS.val_at 4 rfl (by decide) (hN.out 4 rfl)
          simp only [e4] at hK ⊢
          obtain ⟨u1, u2, _, _⟩ := (hS.mem.k (i := 4) rfl).both
          go_simp
          exact hK.out _ _ (hS.val rfl (noStore_of rfl) (Below.refl _ _) rfl)
        · intro L s w9 hN hU hi hS K hK
          dsimp only at hK ⊢
          simp only [Act.put, List.setIfInBounds_toArray, List.set_cons_zero, List.set_cons_succ] at hK
          have e5 : s 5 = iv p3 A6 p4.length c6 := hS.val_at 5 rfl (by decide) (hN.out 5 rfl)
          simp only [e5] at hK ⊢
          have e4 : s 4 = .bool true := hS.val_at 4 rfl (by decide) (hN.out 4 rfl)
          simp only [e4] at hK ⊢
          go_simp
          go_at_call 19
          refine (ours_any _ _ _ _ _).mono ?_
          rintro e9 w10 ⟨rfl, q⟩
          exact hK.out _ _ (hS.val rfl (noStore_of rfl) q rfl)
        · intro L s w9 hN hU hi hS K hK
          dsimp only at hK ⊢
          simp only [Act.put, List.setIfInBounds_toArray, List.set_cons_zero, List.set_cons_succ] at hK
          have e4 : s 4 = .bool true := hS.val_at 4 rfl (by decide) (hN.out 4 rfl)
          simp only [e4] at hK ⊢
          obtain ⟨u1, u2, _, _⟩ := (hS.mem.k (i := 2) rfl).both
          go_simp
          exact hK.out _ _ (hS.val rfl (noStore_of rfl) (Below.refl _ _) rfl)
        · intro L s w9 hN hU hi hS K hK
          dsimp only at hK ⊢
          simp only [Act.put, List.setIfInBounds_toArray, List.set_cons_zero, List.set_cons_succ] at hK
          have e6 : s 6 = iv p3 A6 p4.length c6 := hS.val_at 6 rfl (by decide) (hN.out 6 rfl)
          simp only [e6] at hK ⊢
          have e7 : s 7 = iv p3 B7 p4.length d7 := hS.val_at 7 rfl (by decide) (hN.out 7 rfl)
          simp only [e7] at hK ⊢
          have e4 : s 4 = .bool true := hS.val_at 4 rfl (by decide) (hN.out 4 rfl)
          simp only [e4] at hK ⊢
          go_simp
          go_at_call 18
          refine (rsame_self (hS.mem.r (i := 4) rfl) (hS.mem.r (i := 2) rfl) l2).mono ?_
          rintro e9 w10 ⟨rfl, q⟩
          exact hK.out _ _ (hS.val rfl (noStore_of rfl) q rfl)
        · intro L s w9 hN hU hi hS K hK
          dsimp only at hK ⊢
          simp only [Act.put, List.setIfInBounds_toArray, List.set_cons_zero, List.set_cons_succ] at hK
          have e4 : s 4 = .bool true := hS.val_at 4 rfl (by decide) (hN.out 4 rfl)
          simp only [e4] at hK ⊢
          have e8 : s 8 = .bool true := hS.val_at 8 rfl (by decide) (hN.out 8 rfl)
          simp only [e8] at hK ⊢
          go_simp
          exact hK.out _ _ (hS.val rfl (noStore_of rfl) (Below.refl _ _) rfl)
        · intro L s w9 hN hU hi hS K hK
          dsimp only at hK ⊢
          simp only [Act.put, List.setIfInBounds_toArray, List.set_cons_zero, List.set_cons_succ] at hK
          have e9 : s 9 = .bool true := hS.val_at 9 rfl (by decide) (hN.out 9 rfl)
          simp only [e9] at hK ⊢
          go_simp
          exact hK.out _ _ (hS.val rfl (noStore_of rfl) (Below.refl _ _) rfl)
        · intro L s w9 hN hU hi hS K hK
          dsimp only at hK ⊢
          simp only [Act.put, List.setIfInBounds_toArray, List.set_cons_zero, List.set_cons_succ] at hK
          have e10 : s 10 = .bool true := hS.val_at 10 rfl (by decide) (hN.out 10 rfl)
          simp only [e10] at hK ⊢
          go_simp
          exact hK.out _ _ (hS.val rfl (noStore_of rfl) (Below.refl _ _) rfl)
        · intro L s w9 hN hU hi hS K hK
          dsimp only at hK ⊢
          simp only [Act.put, List.setIfInBounds_toArray, List.set_cons_zero, List.set_cons_succ] at hK
          have e10 : s 10 = .bool true := hS.val_at 10 rfl (by decide) (hN.out 10 rfl)
          simp only [e10] at hK ⊢
          go_simp
          exact hK.out _ _ (hS.val rfl (noStore_of rfl) (Below.refl _ _) rfl)
        · intro L s w9 hN hU hi hS K hK
          dsimp only at hK ⊢
          simp only [Act.put, List.setIfInBounds_toArray, List.set_cons_zero, List.set_cons_succ] at hK
          have e11 : s 11 = .int .i64 p5 := hS.val_at 11 rfl (by decide) (hN.out 11 rfl)
          simp only [e11] at hK ⊢
          have e12 : s 12 = .int .i64 p5 := hS.val_at 12 rfl (by decide) (hN.out 12 rfl)
          simp only [e12] at hK ⊢
          have e10 : s 10 = .bool true := hS.val_at 10 rfl (by decide) (hN.out 10 rfl)
          simp only [e10] at hK ⊢
          go_simp
          exact hK.out _ _ (hS.val rfl (noStore_of rfl) (Below.refl _ _) rfl)
        · intro L s w9 hN hU hi hS K hK
          dsimp only at hK ⊢
          simp only [Act.put, List.setIfInBounds_toArray, List.set_cons_zero, List.set_cons_succ] at hK
          have e10 : s 10 = .bool true := hS.val_at 10 rfl (by decide) (hN.out 10 rfl)
          simp only [e10] at hK ⊢
          have e13 : s 13 = .bool true := hS.val_at 13 rfl (by decide) (hN.out 13 rfl)
          simp only [e13] at hK ⊢
          go_simp
          exact hK.out _ _ (hS.val rfl (noStore_of rfl) (Below.refl _ _) rfl)
        · intro L s w9 hN hU hi hS K hK
          dsimp only at hK ⊢
          simp only [Act.put, List.setIfInBounds_toArray, List.set_cons_zero, List.set_cons_succ] at hK
          have e14 : s 14 = .bool true := hS.val_at 14 rfl (by decide) (hN.out 14 rfl)
          simp only [e14] at hK ⊢
          go_simp
          exact hK.out _ _ (hS.val rfl (noStore_of rfl) (Below.refl _ _) rfl)
        · intro L s w9 hN hU hi hS K hK
          dsimp only at hK ⊢
          simp only [Act.put, List.setIfInBounds_toArray, List.set_cons_zero, List.set_cons_succ] at hK
          have e15 : s 15 = .bool true := hS.val_at 15 rfl (by decide) (hN.out 15 rfl)
          simp only [e15] at hK ⊢
          obtain ⟨u1, u2, _, _⟩ := (hS.mem.k (i := 1) rfl).both
          go_simp
          exact hK.out _ _ (hS.val rfl (noStore_of rfl) (Below.refl _ _) rfl)
        · intro L s w9 hN hU hi hS K hK
          dsimp only at hK ⊢
          simp only [Act.put, List.setIfInBounds_toArray, List.set_cons_zero, List.set_cons_succ] at hK
          have e16 : s 16 = iv t1 A11 t2.length c11 := hS.val_at 16 rfl (by decide) (hN.out 16 rfl)
          simp only [e16] at hK ⊢
          have e15 : s 15 = .bool true := hS.val_at 15 rfl (by decide) (hN.out 15 rfl)
          simp only [e15] at hK ⊢
          go_simp
          go_at_call 19
          refine (ours_any _ _ _ _ _).mono ?_
          rintro e9 w10 ⟨rfl, q⟩
          exact hK.out _ _ (hS.val rfl (noStore_of rfl) q rfl)
        · intro L s w9 hN hU hi hS K hK
          dsimp only at hK ⊢
          simp only [Act.put, List.setIfInBounds_toArray, List.set_cons_zero, List.set_cons_succ] at hK
          have e15 : s 15 = .bool true := hS.val_at 15 rfl (by decide) (hN.out 15 rfl)
          simp only [e15] at hK ⊢
          obtain ⟨u1, u2, _, _⟩ := (hS.mem.k (i := 0) rfl).both
          go_simp
          exact hK.out _ _ (hS.val rfl (noStore_of rfl) (Below.refl _ _) rfl)
        · intro L s w9 hN hU hi hS K hK
          dsimp only at hK ⊢
          simp only [Act.put, List.setIfInBounds_toArray, List.set_cons_zero, List.set_cons_succ] at hK
          have e17 : s 17 = iv t1 A11 t2.length c11 := hS.val_at 17 rfl (by decide) (hN.out 17 rfl)
          simp only [e17] at hK ⊢
          have e18 : s 18 = iv t1 A8 t2.length c8 := hS.val_at 18 rfl (by decide) (hN.out 18 rfl)
          simp only [e18] at hK ⊢
          have e15 : s 15 = .bool true := hS.val_at 15 rfl (by decide) (hN.out 15 rfl)
          simp only [e15] at hK ⊢
          go_simp
          go_at_call 18
          refine (rsame_self (hS.mem.r (i := 1) rfl) (hS.mem.r (i := 0) rfl) l3).mono ?_
          rintro e9 w10 ⟨rfl, q⟩
          exact hK.out _ _ (hS.val rfl (noStore_of rfl) q rfl)
        · intro L s w9 hN hU hi hS K hK
          dsimp only at hK ⊢
          simp only [Act.put, List.setIfInBounds_toArray, List.set_cons_zero, List.set_cons_succ] at hK
          have e15 : s 15 = .bool true := hS.val_at 15 rfl (by decide) (hN.out 15 rfl)
          simp only [e15] at hK ⊢
          have e19 : s 19 = .bool true := hS.val_at 19 rfl (by decide) (hN.out 19 rfl)
          simp only [e19] at hK ⊢
          go_simp
          exact hK.out _ _ (hS.val rfl (noStore_of rfl) (Below.refl _ _) rfl)
        · intro L s w9 hN hU hi hS K hK
          dsimp only at hK ⊢
          simp only [Act.put, List.setIfInBounds_toArray, List.set_cons_zero, List.set_cons_succ] at hK
          have e20 : s 20 = .bool true := hS.val_at 20 rfl (by decide) (hN.out 20 rfl)
          simp only [e20] at hK ⊢
          go_simp
          exact hK.out _ _ (hS.val rfl (noStore_of rfl) (Below.refl _ _) rfl)
        · intro L s w9 hN hU hi hS K hK
          dsimp only at hK ⊢
          simp only [Act.put, List.setIfInBounds_toArray, List.set_cons_zero, List.set_cons_succ] at hK
          have e21 : s 21 = .bool true := hS.val_at 21 rfl (by decide) (hN.out 21 rfl)
          simp only [e21] at hK ⊢
          go_simp
          exact hK.out _ _ (hS.val rfl (noStore_of rfl) (Below.refl _ _) rfl)
        · intro L s w9 hN hU hi hS K hK
          dsimp only at hK ⊢
          simp only [Act.put, List.setIfInBounds_toArray, List.set_cons_zero, List.set_cons_succ] at hK
          have e21 : s 21 = .bool true := hS.val_at 21 rfl (by decide) (hN.out 21 rfl)
          simp only [e21] at hK ⊢
          go_simp
          exact hK.out _ _ (hS.val rfl (noStore_of rfl) (Below.refl _ _) rfl)
        · intro L s w9 hN hU hi hS K hK
          dsimp only at hK ⊢
          simp only [Act.put, List.setIfInBounds_toArray, List.set_cons_zero, List.set_cons_succ] at hK
          have e22 : s 22 = .int .i64 t3 := hS.val_at 22 rfl (by decide) (hN.out 22 rfl)
          simp only [e22] at hK ⊢
          have e23 : s 23 = .int .i64 t3 := hS.val_at 23 rfl (by decide) (hN.out 23 rfl)
          simp only [e23] at hK ⊢
          have e21 : s 21 = .bool true := hS.val_at 21 rfl (by decide) (hN.out 21 rfl)
          simp only [e21] at hK ⊢
          go_simp
          exact hK.out _ _ (hS.val rfl (noStore_of rfl) (Below.refl _ _) rfl)
        · intro L s w9 hN hU hi hS K hK
          dsimp only at hK ⊢
          simp only [Act.put, List.setIfInBounds_toArray, List.set_cons_zero, List.set_cons_succ] at hK
          have e21 : s 21 = .bool true := hS.val_at 21 rfl (by decide) (hN.out 21 rfl)
          simp only [e21] at hK ⊢
          have e24 : s 24 = .bool true := hS.val_at 24 rfl (by decide) (hN.out 24 rfl)
          simp only [e24] at hK ⊢
          go_simp
          exact hK.out _ _ (hS.val rfl (noStore_of rfl) (Below.refl _ _) rfl)
        · intro L s w9 hN hU hi hS K hK
          dsimp only at hK ⊢
          simp only [Act.put, List.setIfInBounds_toArray, List.set_cons_zero, List.set_cons_succ] at hK
          have e25 : s 25 = .bool true := hS.val_at 25 rfl (by decide) (hN.out 25 rfl)
          simp only [e25] at hK ⊢
          go_simp
          exact hK.out _ _ (hS.val rfl (noStore_of rfl) (Below.refl _ _) rfl)
      intro L s w9 hall hS
      have e26 : s 26 = .bool true := hS.val_at 26 rfl (by decide) (hall 26 (by decide))
      rw [e26]
      go_wp2
      go_ret
      exact ⟨rfl, hS.mem.bel⟩
end Go.Proofs.Ytmhjjjffgpdolaa

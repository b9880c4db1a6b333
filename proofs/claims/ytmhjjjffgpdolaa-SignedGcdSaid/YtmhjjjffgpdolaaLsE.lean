/-
  The walk of the law SignedGcd.
-/
import Derived.Test.YtmhjjjffgpdolaaLsG
set_option linter.unusedSimpArgs false
set_option linter.unusedVariables false
namespace Go.Proofs.Ytmhjjjffgpdolaa
open Go.RowKit Num

theorem dvd_use {n m : Bool} {A B : Option Addr} {c d : Nat} {xs ys : List Nat} {w : World} {r : Bool} (h : dvdR n xs m ys = r) (ha : Rd w A c xs) (hb : Rd w B d ys) :
    Calls Try.prog 21 #[iv n A xs.length c, iv m B ys.length d] w fun e w' => e = .returned (.bool r) ∧ Below w.heap.size w w' := by
  subst h
  exact divides_any n m A B c d xs ys w ha hb
theorem gcd_nil {n : Bool} {xs ys : List Nat} (ho : Ok xs) (h : sright n xs = true) (h0 : Nat.gcd (val xs) (val ys) = 0) : xs = [] := by
  have := (Nat.gcd_eq_zero_iff.1 h0).1
  have e := right_dig ho (sright_rightB h)
  rw [this] at e
  exact e.symm
set_option maxRecDepth 100000 in
set_option maxHeartbeats 4000000 in
theorem signedGcd_use (w : World) (n : Bool) (A : Option Addr) (c : Nat) (xs : List Nat) (ha : Rd w A c xs) (m : Bool) (B : Option Addr) (d : Nat) (ys : List Nat) (hb : Rd w B d ys) (l : Bool) (D : Option Addr) (f : Nat) (zs : List Nat) (hd : Rd w D f zs) :
    Calls Try.prog 4 #[iv n A xs.length c, iv m B ys.length d, iv l D zs.length f] w fun e w' => e = .returned (.bool true) ∧ Below w.heap.size w w' := by
  have ox := ha.ok
  have oy := hb.ok
  have oz := hd.ok
  have M : Mem w (((w.alloc (.cells #[.bool n, .slice A xs.length c] 24)).alloc (.cells #[.bool m, .slice B ys.length d] 24)).alloc (.cells #[.bool l, .slice D zs.length f] 24)) [(w.heap.size + 1 + 1, 24, #[.bool l, .slice D zs.length f]), (w.heap.size + 1, 24, #[.bool m, .slice B ys.length d]), (w.heap.size, 24, #[.bool n, .slice A xs.length c])] [(D, f, zs), (B, d, ys), (A, c, xs)] :=
    (((((((Mem.start w).addR ha).addR hb).addR hd).new 24 #[.bool n, .slice A xs.length c]).newAt (by simp) 24 #[.bool m, .slice B ys.length d]).newAt (by simp) 24 #[.bool l, .slice D zs.length f])
  clear ha hb hd
  by_cases hf : xs.length ≤ 30 ∧ ys.length ≤ 30 ∧ zs.length ≤ 30
  case neg =>
    have HF : Hid (decide (xs.length ≤ 30 ∧ ys.length ≤ 30 ∧ zs.length ≤ 30) = false) := decide_eq_false hf
    clear hf
    go_enter Try.func4, Try.ntmps4
    go_wp2_with fail
    refine (salive_any _).mono ?_
    rintro e w1 ⟨rfl, q⟩
    replace M := M.below q
    clear q
    obtain ⟨v1, v2, _, _⟩ := (M.k (i := 2) rfl).both
    obtain ⟨v3, v4, _, _⟩ := (M.k (i := 1) rfl).both
    obtain ⟨v5, v6, _, _⟩ := (M.k (i := 0) rfl).both
    go_wp2_with fail
    refine (few3 rfl (M.r (i := 2) rfl) (M.r (i := 1) rfl) (M.r (i := 0) rfl)).mono ?_
    rw [HF.out]
    rintro e w2 ⟨rfl, q⟩
    replace M := M.below q
    clear q v1 v2 v3 v4 v5 v6
    go_wp2
    go_ret
    exact ⟨rfl, M.bel⟩
  have HF : Hid (decide (xs.length ≤ 30 ∧ ys.length ≤ 30 ∧ zs.length ≤ 30) = true) := decide_eq_true hf
  obtain ⟨hf1, hf2, hf3⟩ := hf
  rcases Bool.eq_false_or_eq_true (right3 n xs m ys l zs) with hr | hr
  case inr =>
    have HR := Lib.hid hr
    clear hr
    go_enter Try.func4, Try.ntmps4
    go_wp2_with fail
    refine (salive_any _).mono ?_
    rintro e w1 ⟨rfl, q⟩
    replace M := M.below q
    clear q
    obtain ⟨v1, v2, _, _⟩ := (M.k (i := 2) rfl).both
    obtain ⟨v3, v4, _, _⟩ := (M.k (i := 1) rfl).both
    obtain ⟨v5, v6, _, _⟩ := (M.k (i := 0) rfl).both
    go_wp2_with fail
    refine (few3 rfl (M.r (i := 2) rfl) (M.r (i := 1) rfl) (M.r (i := 0) rfl)).mono ?_
    rw [HF.out]
    rintro e w2 ⟨rfl, q⟩
    replace M := M.below q
    clear q v1 v2 v3 v4 v5 v6
    obtain ⟨v1, v2, _, _⟩ := (M.k (i := 2) rfl).both
    obtain ⟨v3, v4, _, _⟩ := (M.k (i := 1) rfl).both
    obtain ⟨v5, v6, _, _⟩ := (M.k (i := 0) rfl).both
    go_wp2_with fail
    refine (right3_any rfl (M.r (i := 2) rfl) (M.r (i := 1) rfl) (M.r (i := 0) rfl)).mono ?_
    rw [HR.out]
    rintro e w3 ⟨rfl, q⟩
    replace M := M.below q
    clear q v1 v2 v3 v4 v5 v6
    go_wp2
    go_ret
    exact ⟨rfl, M.bel⟩
  have HR := Lib.hid hr
  obtain ⟨r1, r2, r3⟩ : sright n xs = true ∧ sright m ys = true ∧ sright l zs = true := by unfold right3 at hr; simpa using hr
  clear hr
  have HG : Hid (sgcdR n xs m ys = (false, dig (Nat.gcd (val xs) (val ys)), 0)) := (sgcdR_eq r1 r2).trans (sok_nat _)
  have hlg := gcd_len ox oy hf1 hf2
  by_cases hg : Nat.gcd (val xs) (val ys) = 0
  · have hx := gcd_nil ox r1 hg
    have hy := gcd_nil (n := m) oy r2 ((Nat.gcd_comm _ _).trans hg)
    have hx0 : xs.length ≤ 0 := by rw [hx]; exact Nat.le_refl _
    have hy0 : ys.length ≤ 0 := by rw [hy]; exact Nat.le_refl _
    have hx1 : ((xs.length : Int) == 0) = true := by rw [hx]; rfl
    have hy1 : ((ys.length : Int) == 0) = true := by rw [hy]; rfl
    have hg0 : (dig (Nat.gcd (val xs) (val ys))).length ≤ 0 := by rw [hg]; exact Nat.le_refl _
    have hg1 : (((dig (Nat.gcd (val xs) (val ys))).length : Int) == 0) = true := by rw [hg]; rfl
    generalize dig (Nat.gcd (val xs) (val ys)) = gs at *
    clear hx hy hg r1 r2 r3 ox oy oz
    go_enter Try.func4, Try.ntmps4
    go_wp2_with fail
    refine (salive_any _).mono ?_
    rintro e w1 ⟨rfl, q⟩
    replace M := M.below q
    clear q
    obtain ⟨v1, v2, _, _⟩ := (M.k (i := 2) rfl).both
    obtain ⟨v3, v4, _, _⟩ := (M.k (i := 1) rfl).both
    obtain ⟨v5, v6, _, _⟩ := (M.k (i := 0) rfl).both
    go_wp2_with fail
    refine (few3 rfl (M.r (i := 2) rfl) (M.r (i := 1) rfl) (M.r (i := 0) rfl)).mono ?_
    rw [HF.out]
    rintro e w2 ⟨rfl, q⟩
    replace M := M.below q
    clear q v1 v2 v3 v4 v5 v6
    obtain ⟨v1, v2, _, _⟩ := (M.k (i := 2) rfl).both
    obtain ⟨v3, v4, _, _⟩ := (M.k (i := 1) rfl).both
    obtain ⟨v5, v6, _, _⟩ := (M.k (i := 0) rfl).both
    go_wp2_with fail
    refine (right3_any rfl (M.r (i := 2) rfl) (M.r (i := 1) rfl) (M.r (i := 0) rfl)).mono ?_
    rw [HR.out]
    rintro e w3 ⟨rfl, q⟩
    replace M := M.below q
    clear q v1 v2 v3 v4 v5 v6
    go_upto_region 5 with fail
    go_cut [7, 8] (fun s7 s8 wx => ∃ (gx : Nat) (A1 : Option Addr) (c1 : Nat), s7 = .pointer (some ⟨gx, 0, none⟩) ∧ s8 = .int .i64 0 ∧ Mem w wx ((gx, 27, #[.bool false, .slice A1 gs.length c1]) :: [(w.heap.size + 1 + 1, 24, #[.bool l, .slice D zs.length f]), (w.heap.size + 1, 24, #[.bool m, .slice B ys.length d]), (w.heap.size, 24, #[.bool n, .slice A xs.length c])]) [(A1, c1, gs), (D, f, zs), (B, d, ys), (A, c, xs)])
    case first =>
      refine region_st (n := 11) (frame := ?frame1) (fun j => [.val (.fix (iv n A xs.length c)), .val (.fix (iv n A xs.length c)), .val (.fix (iv m B ys.length d)), .val (.fix (iv m B ys.length d)), .val (.ri (false, gs, 0)), .val (.ri (false, gs, 0)), .val (.num false gs), .val (.fix (.int .i64 0)), .cell 9 27 #[.bool false, .slice none 0 0] (.num false gs), .none, .val (.fix (.int .i64 0))].getD j .none) (by kernel_rfl) (by kernel_rfl) (by kernel_rfl) rfl M ?_ ?_ ?_
      case refine_1 =>
        intro s
        simp only [fr, Act.put, List.setIfInBounds_toArray, List.set_cons_zero, List.set_cons_succ, Nat.reduceAdd]
        rfl
      case refine_2 =>
        refine Steps.cons 0 (j := 1) rfl ?_ (Steps.cons 1 (j := 2) rfl ?_ (Steps.cons 2 (j := 3) rfl ?_ (Steps.cons 3 (j := 4) rfl ?_ (Steps.cons 4 (j := 5) rfl ?_ (Steps.cons 5 (j := 6) rfl ?_ (Steps.cons 6 (j := 7) rfl ?_ (Steps.cons 7 (j := 8) rfl ?_ (Steps.cons 8 (j := 9) rfl ?_ (Steps.cons 9 (j := 10) rfl ?_ (Steps.cons 10 (j := 11) rfl ?_ Steps.nil))))))))))
        · intro L s w9 hN hU hi hS K hK
          dsimp only at hK ⊢
          simp only [Act.put, List.setIfInBounds_toArray, List.set_cons_zero, List.set_cons_succ] at hK
          obtain ⟨u1, u2, _, _⟩ := (hS.mem.k (i := 2) rfl).both
          go_simp
          exact hK.out _ _ (hS.val rfl rfl (Below.refl _ _) rfl)
        · intro L s w9 hN hU hi hS K hK
          dsimp only at hK ⊢
          simp only [Act.put, List.setIfInBounds_toArray, List.set_cons_zero, List.set_cons_succ] at hK
          have e0 : s 0 = iv n A xs.length c := hS.val_at 0 rfl (by decide) (hN.out 0 rfl)
          simp only [e0] at hK ⊢
          go_simp
          go_at_call 14
          refine (theirs_any _ _ _ _ _).mono ?_
          rintro e9 w10 ⟨rfl, q⟩
          exact hK.out _ _ (hS.val rfl rfl q rfl)
        · intro L s w9 hN hU hi hS K hK
          dsimp only at hK ⊢
          simp only [Act.put, List.setIfInBounds_toArray, List.set_cons_zero, List.set_cons_succ] at hK
          obtain ⟨u1, u2, _, _⟩ := (hS.mem.k (i := 1) rfl).both
          go_simp
          exact hK.out _ _ (hS.val rfl rfl (Below.refl _ _) rfl)
        · intro L s w9 hN hU hi hS K hK
          dsimp only at hK ⊢
          simp only [Act.put, List.setIfInBounds_toArray, List.set_cons_zero, List.set_cons_succ] at hK
          have e2 : s 2 = iv m B ys.length d := hS.val_at 2 rfl (by decide) (hN.out 2 rfl)
          simp only [e2] at hK ⊢
          go_simp
          go_at_call 14
          refine (theirs_any _ _ _ _ _).mono ?_
          rintro e9 w10 ⟨rfl, q⟩
          exact hK.out _ _ (hS.val rfl rfl q rfl)
        · intro L s w9 hN hU hi hS K hK
          dsimp only at hK ⊢
          simp only [Act.put, List.setIfInBounds_toArray, List.set_cons_zero, List.set_cons_succ] at hK
          have e1 : s 1 = iv n A xs.length c := hS.val_at 1 rfl (by decide) (hN.out 1 rfl)
          simp only [e1] at hK ⊢
          have e3 : s 3 = iv m B ys.length d := hS.val_at 3 rfl (by decide) (hN.out 3 rfl)
          simp only [e3] at hK ⊢
          go_simp
          go_at_call 16
          refine (sgcd_eq' HG.out (hS.mem.r (i := 2) rfl) (hS.mem.r (i := 1) rfl)).mono ?_
          rintro e9 w10 ⟨⟨A2, c2, rfl, h2⟩, q⟩
          exact hK.out _ _ (hS.val rfl rfl q ⟨A2, c2, rfl, h2⟩)
        · intro L s w9 hN hU hi hS K hK
          dsimp only at hK ⊢
          simp only [Act.put, List.setIfInBounds_toArray, List.set_cons_zero, List.set_cons_succ] at hK
          obtain ⟨A4, c4, e4, h4⟩ := hS.val_at 4 rfl (by decide) (hN.out 4 rfl)
          simp only [e4] at hK ⊢
          go_simp
          exact hK.out _ _ (hS.val rfl rfl (Below.refl _ _) ⟨A4, c4, rfl, h4⟩)
        · intro L s w9 hN hU hi hS K hK
          dsimp only at hK ⊢
          simp only [Act.put, List.setIfInBounds_toArray, List.set_cons_zero, List.set_cons_succ] at hK
          obtain ⟨A5, c5, e5, h5⟩ := hS.val_at 5 rfl (by decide) (hN.out 5 rfl)
          simp only [e5] at hK ⊢
          go_simp
          exact hK.out _ _ (hS.val rfl rfl (Below.refl _ _) ⟨A5, c5, rfl, h5⟩)
        · intro L s w9 hN hU hi hS K hK
          dsimp only at hK ⊢
          simp only [Act.put, List.setIfInBounds_toArray, List.set_cons_zero, List.set_cons_succ] at hK
          obtain ⟨A5, c5, e5, h5⟩ := hS.val_at 5 rfl (by decide) (hN.out 5 rfl)
          simp only [e5] at hK ⊢
          go_simp
          exact hK.out _ _ (hS.val rfl rfl (Below.refl _ _) rfl)
        · intro L s w9 hN hU hi hS K hK
          dsimp only at hK ⊢
          simp only [Act.put, List.setIfInBounds_toArray, List.set_cons_zero, List.set_cons_succ] at hK
          go_simp
          exact hK.out _ _ (hS.new rfl rfl hi.out (fun _ => hU.out 9 _ rfl rfl) rfl)
        · intro L s w9 hN hU hi hS K hK
          dsimp only at hK ⊢
          simp only [Act.put, List.setIfInBounds_toArray, List.set_cons_zero, List.set_cons_succ] at hK
          obtain ⟨A6, c6, e6, h6⟩ := hS.val_at 6 rfl (by decide) (hN.out 6 rfl)
          simp only [e6] at hK ⊢
          obtain ⟨g9, cs9, e9, l9, b9, n9, z9, _⟩ := hS.cell_at 8 rfl (by decide) (hN.out 8 rfl)
          obtain rfl := z9 hi.out
          simp only [e9] at hK ⊢
          refine ite_of rfl ?_
          refine wp_store_row _ _ _ rfl g9 _ rfl rfl _ _ b9 info_int rfl (by rw [← Array.all_toList]; rfl) ?_
          simp only [Act.put]
          exact hK.out undef _ (hS.fill (u := undef) (c := .num false gs) rfl rfl (by decide) rfl (hN.out 8 rfl) hi.out e9 (setRow_grown _ _ _) (b9.row _) rfl ⟨A6, c6, rfl, h6⟩)
        · intro L s w9 hN hU hi hS K hK
          dsimp only at hK ⊢
          simp only [Act.put, List.setIfInBounds_toArray, List.set_cons_zero, List.set_cons_succ] at hK
          have e7 : s 7 = .int .i64 0 := hS.val_at 7 rfl (by decide) (hN.out 7 rfl)
          simp only [e7] at hK ⊢
          go_simp
          exact hK.out _ _ (hS.val rfl rfl (Below.refl _ _) rfl)
      intro L s w9 hall hS
      obtain ⟨g8, cs8, e8, l8, b8, n8, _, z8⟩ := hS.cell_at 8 rfl (by decide) (hall 8 (by decide))
      obtain ⟨A8, c8, rfl, h8⟩ := z8 (hall 9 (by decide))
      rw [e8]
      have e10 := hS.val_at 10 rfl (by decide) (hall 10 (by decide))
      go_wp2_with fail
      go_meet
      exact ⟨_, A8, c8, rfl, e10, (hS.mem.addR h8).addK b8⟩
    case rest =>
      obtain ⟨gx, A1, c1, rfl, rfl, M⟩ := hcut
      obtain ⟨x3, y3, _, _⟩ := (M.k (i := 0) rfl).both
      obtain ⟨x2, y2, _, _⟩ := (M.k (i := 3) rfl).both
      obtain ⟨x1, y1, _, _⟩ := (M.k (i := 2) rfl).both
      go_wp2
      go_ret
      exact ⟨rfl, M.bel⟩
  · have hg0 : 0 < (dig (Nat.gcd (val xs) (val ys))).length := dig_len_pos.2 (by omega)
    have hg1 : (((dig (Nat.gcd (val xs) (val ys))).length : Int) == 0) = false := beq_eq_false_iff_ne.2 (by omega)
    have rg : sright false (dig (Nat.gcd (val xs) (val ys))) = true := sright_of (right_dig' (by omega)) (fun e => by cases e)
    have gne : dig (Nat.gcd (val xs) (val ys)) ≠ [] := List.length_pos_iff.1 hg0
    have D1 : Hid (dvdR false (dig (Nat.gcd (val xs) (val ys))) n xs = true) := (dvd_eq (dig_ok _) ox rg r1 gne (by omega)).trans (decide_eq_true (by rw [val_dig]; exact Nat.gcd_dvd_left _ _))
    have D2 : Hid (dvdR false (dig (Nat.gcd (val xs) (val ys))) m ys = true) := (dvd_eq (dig_ok _) oy rg r2 gne (by omega)).trans (decide_eq_true (by rw [val_dig]; exact Nat.gcd_dvd_right _ _))
    have HC : Hid (zs = [] ∨ (zs ≠ [] ∧ dvdR l zs n xs = false) ∨ (zs ≠ [] ∧ dvdR l zs n xs = true ∧ dvdR l zs m ys = false) ∨ (zs ≠ [] ∧ dvdR l zs n xs = true ∧ dvdR l zs m ys = true ∧ dvdR l zs false (dig (Nat.gcd (val xs) (val ys))) = true)) := by
      unfold Hid
      by_cases hz : zs = []
      · exact Or.inl hz
      · have e1 := dvd_eq oz ox r3 r1 hz (by omega)
        have e2 := dvd_eq oz oy r3 r2 hz (by omega)
        have e3 := dvd_eq oz (dig_ok _) r3 rg hz (by omega)
        rw [val_dig] at e3
        by_cases h1 : val zs ∣ val xs
        · by_cases h2 : val zs ∣ val ys
          · exact Or.inr (Or.inr (Or.inr ⟨hz, e1.trans (decide_eq_true h1), e2.trans (decide_eq_true h2), e3.trans (decide_eq_true (Nat.dvd_gcd h1 h2))⟩))
          · exact Or.inr (Or.inr (Or.inl ⟨hz, e1.trans (decide_eq_true h1), e2.trans (decide_eq_false h2)⟩))
        · exact Or.inr (Or.inl ⟨hz, e1.trans (decide_eq_false h1)⟩)
    clear r1 r2 r3 ox oy oz rg gne hg
    generalize dig (Nat.gcd (val xs) (val ys)) = gs at *
    go_enter Try.func4, Try.ntmps4
    go_wp2_with fail
    refine (salive_any _).mono ?_
    rintro e w1 ⟨rfl, q⟩
    replace M := M.below q
    clear q
    obtain ⟨v1, v2, _, _⟩ := (M.k (i := 2) rfl).both
    obtain ⟨v3, v4, _, _⟩ := (M.k (i := 1) rfl).both
    obtain ⟨v5, v6, _, _⟩ := (M.k (i := 0) rfl).both
    go_wp2_with fail
    refine (few3 rfl (M.r (i := 2) rfl) (M.r (i := 1) rfl) (M.r (i := 0) rfl)).mono ?_
    rw [HF.out]
    rintro e w2 ⟨rfl, q⟩
    replace M := M.below q
    clear q v1 v2 v3 v4 v5 v6
    obtain ⟨v1, v2, _, _⟩ := (M.k (i := 2) rfl).both
    obtain ⟨v3, v4, _, _⟩ := (M.k (i := 1) rfl).both
    obtain ⟨v5, v6, _, _⟩ := (M.k (i := 0) rfl).both
    go_wp2_with fail
    refine (right3_any rfl (M.r (i := 2) rfl) (M.r (i := 1) rfl) (M.r (i := 0) rfl)).mono ?_
    rw [HR.out]
    rintro e w3 ⟨rfl, q⟩
    replace M := M.below q
    clear q v1 v2 v3 v4 v5 v6
    go_upto_region 5 with fail
    go_cut [7, 8] (fun s7 s8 wx => ∃ (gx : Nat) (A1 : Option Addr) (c1 : Nat), s7 = .pointer (some ⟨gx, 0, none⟩) ∧ s8 = .int .i64 0 ∧ Mem w wx ((gx, 27, #[.bool false, .slice A1 gs.length c1]) :: [(w.heap.size + 1 + 1, 24, #[.bool l, .slice D zs.length f]), (w.heap.size + 1, 24, #[.bool m, .slice B ys.length d]), (w.heap.size, 24, #[.bool n, .slice A xs.length c])]) [(A1, c1, gs), (D, f, zs), (B, d, ys), (A, c, xs)])
    case first =>
      refine region_st (n := 11) (frame := ?frame2) (fun j => [.val (.fix (iv n A xs.length c)), .val (.fix (iv n A xs.length c)), .val (.fix (iv m B ys.length d)), .val (.fix (iv m B ys.length d)), .val (.ri (false, gs, 0)), .val (.ri (false, gs, 0)), .val (.num false gs), .val (.fix (.int .i64 0)), .cell 9 27 #[.bool false, .slice none 0 0] (.num false gs), .none, .val (.fix (.int .i64 0))].getD j .none) (by kernel_rfl) (by kernel_rfl) (by kernel_rfl) rfl M ?_ ?_ ?_
      case refine_1 =>
        intro s
        simp only [fr, Act.put, List.setIfInBounds_toArray, List.set_cons_zero, List.set_cons_succ, Nat.reduceAdd]
        rfl
      case refine_2 =>
        refine Steps.cons 0 (j := 1) rfl ?_ (Steps.cons 1 (j := 2) rfl ?_ (Steps.cons 2 (j := 3) rfl ?_ (Steps.cons 3 (j := 4) rfl ?_ (Steps.cons 4 (j := 5) rfl ?_ (Steps.cons 5 (j := 6) rfl ?_ (Steps.cons 6 (j := 7) rfl ?_ (Steps.cons 7 (j := 8) rfl ?_ (Steps.cons 8 (j := 9) rfl ?_ (Steps.cons 9 (j := 10) rfl ?_ (Steps.cons 10 (j := 11) rfl ?_ Steps.nil))))))))))
        · intro L s w9 hN hU hi hS K hK
          dsimp only at hK ⊢
          simp only [Act.put, List.setIfInBounds_toArray, List.set_cons_zero, List.set_cons_succ] at hK
          obtain ⟨u1, u2, _, _⟩ := (hS.mem.k (i := 2) rfl).both
          go_simp
          exact hK.out _ _ (hS.val rfl rfl (Below.refl _ _) rfl)
        · intro L s w9 hN hU hi hS K hK
          dsimp only at hK ⊢
          simp only [Act.put, List.setIfInBounds_toArray, List.set_cons_zero, List.set_cons_succ] at hK
          have e0 : s 0 = iv n A xs.length c := hS.val_at 0 rfl (by decide) (hN.out 0 rfl)
          simp only [e0] at hK ⊢
          go_simp
          go_at_call 14
          refine (theirs_any _ _ _ _ _).mono ?_
          rintro e9 w10 ⟨rfl, q⟩
          exact hK.out _ _ (hS.val rfl rfl q rfl)
        · intro L s w9 hN hU hi hS K hK
          dsimp only at hK ⊢
          simp only [Act.put, List.setIfInBounds_toArray, List.set_cons_zero, List.set_cons_succ] at hK
          obtain ⟨u1, u2, _, _⟩ := (hS.mem.k (i := 1) rfl).both
          go_simp
          exact hK.out _ _ (hS.val rfl rfl (Below.refl _ _) rfl)
        · intro L s w9 hN hU hi hS K hK
          dsimp only at hK ⊢
          simp only [Act.put, List.setIfInBounds_toArray, List.set_cons_zero, List.set_cons_succ] at hK
          have e2 : s 2 = iv m B ys.length d := hS.val_at 2 rfl (by decide) (hN.out 2 rfl)
          simp only [e2] at hK ⊢
          go_simp
          go_at_call 14
          refine (theirs_any _ _ _ _ _).mono ?_
          rintro e9 w10 ⟨rfl, q⟩
          exact hK.out _ _ (hS.val rfl rfl q rfl)
        · intro L s w9 hN hU hi hS K hK
          dsimp only at hK ⊢
          simp only [Act.put, List.setIfInBounds_toArray, List.set_cons_zero, List.set_cons_succ] at hK
          have e1 : s 1 = iv n A xs.length c := hS.val_at 1 rfl (by decide) (hN.out 1 rfl)
          simp only [e1] at hK ⊢
          have e3 : s 3 = iv m B ys.length d := hS.val_at 3 rfl (by decide) (hN.out 3 rfl)
          simp only [e3] at hK ⊢
          go_simp
          go_at_call 16
          refine (sgcd_eq' HG.out (hS.mem.r (i := 2) rfl) (hS.mem.r (i := 1) rfl)).mono ?_
          rintro e9 w10 ⟨⟨A2, c2, rfl, h2⟩, q⟩
          exact hK.out _ _ (hS.val rfl rfl q ⟨A2, c2, rfl, h2⟩)
        · intro L s w9 hN hU hi hS K hK
          dsimp only at hK ⊢
          simp only [Act.put, List.setIfInBounds_toArray, List.set_cons_zero, List.set_cons_succ] at hK
          obtain ⟨A4, c4, e4, h4⟩ := hS.val_at 4 rfl (by decide) (hN.out 4 rfl)
          simp only [e4] at hK ⊢
          go_simp
          exact hK.out _ _ (hS.val rfl rfl (Below.refl _ _) ⟨A4, c4, rfl, h4⟩)
        · intro L s w9 hN hU hi hS K hK
          dsimp only at hK ⊢
          simp only [Act.put, List.setIfInBounds_toArray, List.set_cons_zero, List.set_cons_succ] at hK
          obtain ⟨A5, c5, e5, h5⟩ := hS.val_at 5 rfl (by decide) (hN.out 5 rfl)
          simp only [e5] at hK ⊢
          go_simp
          exact hK.out _ _ (hS.val rfl rfl (Below.refl _ _) ⟨A5, c5, rfl, h5⟩)
        · intro L s w9 hN hU hi hS K hK
          dsimp only at hK ⊢
          simp only [Act.put, List.setIfInBounds_toArray, List.set_cons_zero, List.set_cons_succ] at hK
          obtain ⟨A5, c5, e5, h5⟩ := hS.val_at 5 rfl (by decide) (hN.out 5 rfl)
          simp only [e5] at hK ⊢
          go_simp
          exact hK.out _ _ (hS.val rfl rfl (Below.refl _ _) rfl)
        · intro L s w9 hN hU hi hS K hK
          dsimp only at hK ⊢
          simp only [Act.put, List.setIfInBounds_toArray, List.set_cons_zero, List.set_cons_succ] at hK
          go_simp
          exact hK.out _ _ (hS.new rfl rfl hi.out (fun _ => hU.out 9 _ rfl rfl) rfl)
        · intro L s w9 hN hU hi hS K hK
          dsimp only at hK ⊢
          simp only [Act.put, List.setIfInBounds_toArray, List.set_cons_zero, List.set_cons_succ] at hK
          obtain ⟨A6, c6, e6, h6⟩ := hS.val_at 6 rfl (by decide) (hN.out 6 rfl)
          simp only [e6] at hK ⊢
          obtain ⟨g9, cs9, e9, l9, b9, n9, z9, _⟩ := hS.cell_at 8 rfl (by decide) (hN.out 8 rfl)
          obtain rfl := z9 hi.out
          simp only [e9] at hK ⊢
          refine ite_of rfl ?_
          refine wp_store_row _ _ _ rfl g9 _ rfl rfl _ _ b9 info_int rfl (by rw [← Array.all_toList]; rfl) ?_
          simp only [Act.put]
          exact hK.out undef _ (hS.fill (u := undef) (c := .num false gs) rfl rfl (by decide) rfl (hN.out 8 rfl) hi.out e9 (setRow_grown _ _ _) (b9.row _) rfl ⟨A6, c6, rfl, h6⟩)
        · intro L s w9 hN hU hi hS K hK
          dsimp only at hK ⊢
          simp only [Act.put, List.setIfInBounds_toArray, List.set_cons_zero, List.set_cons_succ] at hK
          have e7 : s 7 = .int .i64 0 := hS.val_at 7 rfl (by decide) (hN.out 7 rfl)
          simp only [e7] at hK ⊢
          go_simp
          exact hK.out _ _ (hS.val rfl rfl (Below.refl _ _) rfl)
      intro L s w9 hall hS
      obtain ⟨g8, cs8, e8, l8, b8, n8, _, z8⟩ := hS.cell_at 8 rfl (by decide) (hall 8 (by decide))
      obtain ⟨A8, c8, rfl, h8⟩ := z8 (hall 9 (by decide))
      rw [e8]
      have e10 := hS.val_at 10 rfl (by decide) (hall 10 (by decide))
      go_wp2_with fail
      go_meet
      exact ⟨_, A8, c8, rfl, e10, (hS.mem.addR h8).addK b8⟩
    case rest =>
      obtain ⟨gx, A1, c1, rfl, rfl, M⟩ := hcut
      obtain ⟨x3, y3, _, _⟩ := (M.k (i := 0) rfl).both
      go_upto_region 11 with fail
      refine region_st (n := 14) (frame := ?frame3) (fun j => [.val (.fix (Value.func (.func 21) #[] #[])), .val (.fix (iv false A1 gs.length c1)), .val (.fix (iv n A xs.length c)), .val (.fix (iv n A xs.length c)), .val (.fix (.bool true)), .val (.fix (.bool false)), .val (.fix (.bool false)), .val (.fix (Value.func (.func 21) #[] #[])), .val (.fix (iv false A1 gs.length c1)), .val (.fix (iv m B ys.length d)), .val (.fix (iv m B ys.length d)), .val (.fix (.bool true)), .val (.fix (.bool false)), .val (.fix (.bool false))].getD j .none) (by kernel_rfl) (by kernel_rfl) (by kernel_rfl) rfl M ?_ ?_ ?_
      case refine_1 =>
        intro s
        simp only [fr, Act.put, List.setIfInBounds_toArray, List.set_cons_zero, List.set_cons_succ, Nat.reduceAdd]
        rfl
      case refine_2 =>
        refine Steps.cons 0 (j := 1) rfl ?_ (Steps.cons 1 (j := 2) rfl ?_ (Steps.cons 2 (j := 3) rfl ?_ (Steps.cons 3 (j := 4) rfl ?_ (Steps.cons 4 (j := 5) rfl ?_ (Steps.cons 5 (j := 6) rfl ?_ (Steps.cons 6 (j := 7) rfl ?_ (Steps.cons 7 (j := 8) rfl ?_ (Steps.cons 8 (j := 9) rfl ?_ (Steps.cons 9 (j := 10) rfl ?_ (Steps.cons 10 (j := 11) rfl ?_ (Steps.cons 11 (j := 12) rfl ?_ (Steps.cons 12 (j := 13) rfl ?_ (Steps.cons 13 (j := 14) rfl ?_ Steps.nil)))))))))))))
        · intro L s w9 hN hU hi hS K hK
          dsimp only at hK ⊢
          simp only [Act.put, List.setIfInBounds_toArray, List.set_cons_zero, List.set_cons_succ] at hK
          go_simp
          exact hK.out _ _ (hS.val rfl rfl (Below.refl _ _) rfl)
        · intro L s w9 hN hU hi hS K hK
          dsimp only at hK ⊢
          simp only [Act.put, List.setIfInBounds_toArray, List.set_cons_zero, List.set_cons_succ] at hK
          obtain ⟨u1, u2, _, _⟩ := (hS.mem.k (i := 0) rfl).both
          go_simp
          exact hK.out _ _ (hS.val rfl rfl (Below.refl _ _) rfl)
        · intro L s w9 hN hU hi hS K hK
          dsimp only at hK ⊢
          simp only [Act.put, List.setIfInBounds_toArray, List.set_cons_zero, List.set_cons_succ] at hK
          obtain ⟨u1, u2, _, _⟩ := (hS.mem.k (i := 3) rfl).both
          go_simp
          exact hK.out _ _ (hS.val rfl rfl (Below.refl _ _) rfl)
        · intro L s w9 hN hU hi hS K hK
          dsimp only at hK ⊢
          simp only [Act.put, List.setIfInBounds_toArray, List.set_cons_zero, List.set_cons_succ] at hK
          have e2 : s 2 = iv n A xs.length c := hS.val_at 2 rfl (by decide) (hN.out 2 rfl)
          simp only [e2] at hK ⊢
          go_simp
          go_at_call 14
          refine (theirs_any _ _ _ _ _).mono ?_
          rintro e9 w10 ⟨rfl, q⟩
          exact hK.out _ _ (hS.val rfl rfl q rfl)
        · intro L s w9 hN hU hi hS K hK
          dsimp only at hK ⊢
          simp only [Act.put, List.setIfInBounds_toArray, List.set_cons_zero, List.set_cons_succ] at hK
          have e0 : s 0 = Value.func (.func 21) #[] #[] := hS.val_at 0 rfl (by decide) (hN.out 0 rfl)
          simp only [e0] at hK ⊢
          have e1 : s 1 = iv false A1 gs.length c1 := hS.val_at 1 rfl (by decide) (hN.out 1 rfl)
          simp only [e1] at hK ⊢
          have e3 : s 3 = iv n A xs.length c := hS.val_at 3 rfl (by decide) (hN.out 3 rfl)
          simp only [e3] at hK ⊢
          go_simp
          go_at_call 21
          refine (dvd_use D1.out (hS.mem.r (i := 0) rfl) (hS.mem.r (i := 3) rfl)).mono ?_
          rintro e9 w10 ⟨rfl, q⟩
          exact hK.out _ _ (hS.val rfl rfl q rfl)
        · intro L s w9 hN hU hi hS K hK
          dsimp only at hK ⊢
          simp only [Act.put, List.setIfInBounds_toArray, List.set_cons_zero, List.set_cons_succ] at hK
          have e4 : s 4 = .bool true := hS.val_at 4 rfl (by decide) (hN.out 4 rfl)
          simp only [e4] at hK ⊢
          go_simp
          exact hK.out _ _ (hS.val rfl rfl (Below.refl _ _) rfl)
        · intro L s w9 hN hU hi hS K hK
          dsimp only at hK ⊢
          simp only [Act.put, List.setIfInBounds_toArray, List.set_cons_zero, List.set_cons_succ] at hK
          have e5 : s 5 = .bool false := hS.val_at 5 rfl (by decide) (hN.out 5 rfl)
          simp only [e5] at hK ⊢
          go_simp
          exact hK.out _ _ (hS.val rfl rfl (Below.refl _ _) rfl)
        · intro L s w9 hN hU hi hS K hK
          dsimp only at hK ⊢
          simp only [Act.put, List.setIfInBounds_toArray, List.set_cons_zero, List.set_cons_succ] at hK
          have e6 : s 6 = .bool false := hS.val_at 6 rfl (by decide) (hN.out 6 rfl)
          simp only [e6] at hK ⊢
          go_simp
          exact hK.out _ _ (hS.val rfl rfl (Below.refl _ _) rfl)
        · intro L s w9 hN hU hi hS K hK
          dsimp only at hK ⊢
          simp only [Act.put, List.setIfInBounds_toArray, List.set_cons_zero, List.set_cons_succ] at hK
          have e6 : s 6 = .bool false := hS.val_at 6 rfl (by decide) (hN.out 6 rfl)
          simp only [e6] at hK ⊢
          obtain ⟨u1, u2, _, _⟩ := (hS.mem.k (i := 0) rfl).both
          go_simp
          exact hK.out _ _ (hS.val rfl rfl (Below.refl _ _) rfl)
        · intro L s w9 hN hU hi hS K hK
          dsimp only at hK ⊢
          simp only [Act.put, List.setIfInBounds_toArray, List.set_cons_zero, List.set_cons_succ] at hK
          have e6 : s 6 = .bool false := hS.val_at 6 rfl (by decide) (hN.out 6 rfl)
          simp only [e6] at hK ⊢
          obtain ⟨u1, u2, _, _⟩ := (hS.mem.k (i := 2) rfl).both
          go_simp
          exact hK.out _ _ (hS.val rfl rfl (Below.refl _ _) rfl)
        · intro L s w9 hN hU hi hS K hK
          dsimp only at hK ⊢
          simp only [Act.put, List.setIfInBounds_toArray, List.set_cons_zero, List.set_cons_succ] at hK
          have e9 : s 9 = iv m B ys.length d := hS.val_at 9 rfl (by decide) (hN.out 9 rfl)
          simp only [e9] at hK ⊢
          have e6 : s 6 = .bool false := hS.val_at 6 rfl (by decide) (hN.out 6 rfl)
          simp only [e6] at hK ⊢
          go_simp
          go_at_call 14
          refine (theirs_any _ _ _ _ _).mono ?_
          rintro e9 w10 ⟨rfl, q⟩
          exact hK.out _ _ (hS.val rfl rfl q rfl)
        · intro L s w9 hN hU hi hS K hK
          dsimp only at hK ⊢
          simp only [Act.put, List.setIfInBounds_toArray, List.set_cons_zero, List.set_cons_succ] at hK
          have e7 : s 7 = Value.func (.func 21) #[] #[] := hS.val_at 7 rfl (by decide) (hN.out 7 rfl)
          simp only [e7] at hK ⊢
          have e8 : s 8 = iv false A1 gs.length c1 := hS.val_at 8 rfl (by decide) (hN.out 8 rfl)
          simp only [e8] at hK ⊢
          have e10 : s 10 = iv m B ys.length d := hS.val_at 10 rfl (by decide) (hN.out 10 rfl)
          simp only [e10] at hK ⊢
          have e6 : s 6 = .bool false := hS.val_at 6 rfl (by decide) (hN.out 6 rfl)
          simp only [e6] at hK ⊢
          go_simp
          go_at_call 21
          refine (dvd_use D2.out (hS.mem.r (i := 0) rfl) (hS.mem.r (i := 2) rfl)).mono ?_
          rintro e9 w10 ⟨rfl, q⟩
          exact hK.out _ _ (hS.val rfl rfl q rfl)
        · intro L s w9 hN hU hi hS K hK
          dsimp only at hK ⊢
          simp only [Act.put, List.setIfInBounds_toArray, List.set_cons_zero, List.set_cons_succ] at hK
          have e11 : s 11 = .bool true := hS.val_at 11 rfl (by decide) (hN.out 11 rfl)
          simp only [e11] at hK ⊢
          have e6 : s 6 = .bool false := hS.val_at 6 rfl (by decide) (hN.out 6 rfl)
          simp only [e6] at hK ⊢
          go_simp
          exact hK.out _ _ (hS.val rfl rfl (Below.refl _ _) rfl)
        · intro L s w9 hN hU hi hS K hK
          dsimp only at hK ⊢
          simp only [Act.put, List.setIfInBounds_toArray, List.set_cons_zero, List.set_cons_succ] at hK
          have e6 : s 6 = .bool false := hS.val_at 6 rfl (by decide) (hN.out 6 rfl)
          simp only [e6] at hK ⊢
          have e12 : s 12 = .bool false := hS.val_at 12 rfl (by decide) (hN.out 12 rfl)
          simp only [e12] at hK ⊢
          go_simp
          exact hK.out _ _ (hS.val rfl rfl (Below.refl _ _) rfl)
      intro L s w9 hall hS
      have e13 : s 13 = .bool false := hS.val_at 13 rfl (by decide) (hall 13 (by decide))
      rw [e13]
      replace M := hS.mem
      clear hS hall e13 D1 D2 HG
      rcases HC.out with hz | ⟨hz, e1⟩ | ⟨hz, e1, e2⟩ | ⟨hz, e1, e2, e3⟩
      · have hz1 : decide ((0 : Int) < (zs.length : Int)) = false := by rw [hz]; rfl
        have hz2 : decide (0 < zs.length) = false := by rw [hz]; rfl
        clear hz HC
        go_upto_region 13 with fail
        refine region_st (n := 28) (frame := ?frame4) (fun j => [.val (.fix (.pointer (some ⟨w.heap.size + 1 + 1, 1, none⟩))), .val (.fix (.slice D zs.length f)), .val (.fix (.int .i64 zs.length)), .val (.fix (.bool false)), .val (.fix (.bool false)), .none, .none, .none, .none, .none, .none, .val (.fix (.bool false)), .val (.fix (.bool false)), .none, .none, .none, .none, .none, .none, .val (.fix (.bool false)), .val (.fix (.bool false)), .none, .none, .none, .none, .none, .none, .val (.fix (.bool false))].getD j .none) (by kernel_rfl) (by kernel_rfl) (by kernel_rfl) rfl M ?_ ?_ ?_
        case refine_1 =>
          intro s
          simp only [fr, Act.put, List.setIfInBounds_toArray, List.set_cons_zero, List.set_cons_succ, Nat.reduceAdd]
          rfl
        case refine_2 =>
          refine Steps.cons 0 (j := 1) rfl ?_ (Steps.cons 1 (j := 2) rfl ?_ (Steps.cons 2 (j := 3) rfl ?_ (Steps.cons 3 (j := 4) rfl ?_ (Steps.cons 4 (j := 5) rfl ?_ (Steps.cons 5 (j := 6) rfl ?_ (Steps.cons 6 (j := 7) rfl ?_ (Steps.cons 7 (j := 8) rfl ?_ (Steps.cons 8 (j := 9) rfl ?_ (Steps.cons 9 (j := 10) rfl ?_ (Steps.cons 10 (j := 11) rfl ?_ (Steps.cons 11 (j := 12) rfl ?_ (Steps.cons 12 (j := 13) rfl ?_ (Steps.cons 13 (j := 14) rfl ?_ (Steps.cons 14 (j := 15) rfl ?_ (Steps.cons 15 (j := 16) rfl ?_ (Steps.cons 16 (j := 17) rfl ?_ (Steps.cons 17 (j := 18) rfl ?_ (Steps.cons 18 (j := 19) rfl ?_ (Steps.cons 19 (j := 20) rfl ?_ (Steps.cons 20 (j := 21) rfl ?_ (Steps.cons 21 (j := 22) rfl ?_ (Steps.cons 22 (j := 23) rfl ?_ (Steps.cons 23 (j := 24) rfl ?_ (Steps.cons 24 (j := 25) rfl ?_ (Steps.cons 25 (j := 26) rfl ?_ (Steps.cons 26 (j := 27) rfl ?_ (Steps.cons 27 (j := 28) rfl ?_ Steps.nil)))))))))))))))))))))))))))
          · intro L s w9 hN hU hi hS K hK
            dsimp only at hK ⊢
            simp only [Act.put, List.setIfInBounds_toArray, List.set_cons_zero, List.set_cons_succ] at hK
            go_simp
            exact hK.out _ _ (hS.val rfl rfl (Below.refl _ _) rfl)
          · intro L s w9 hN hU hi hS K hK
            dsimp only at hK ⊢
            simp only [Act.put, List.setIfInBounds_toArray, List.set_cons_zero, List.set_cons_succ] at hK
            have e0 : s 0 = .pointer (some ⟨w.heap.size + 1 + 1, 1, none⟩) := hS.val_at 0 rfl (by decide) (hN.out 0 rfl)
            simp only [e0] at hK ⊢
            obtain ⟨u1, u2, _, _⟩ := (hS.mem.k (i := 1) rfl).both
            go_simp
            exact hK.out _ _ (hS.val rfl rfl (Below.refl _ _) rfl)
          · intro L s w9 hN hU hi hS K hK
            dsimp only at hK ⊢
            simp only [Act.put, List.setIfInBounds_toArray, List.set_cons_zero, List.set_cons_succ] at hK
            have e1 : s 1 = .slice D zs.length f := hS.val_at 1 rfl (by decide) (hN.out 1 rfl)
            simp only [e1] at hK ⊢
            go_simp
            exact hK.out _ _ (hS.val rfl rfl (Below.refl _ _) rfl)
          · intro L s w9 hN hU hi hS K hK
            dsimp only at hK ⊢
            simp only [Act.put, List.setIfInBounds_toArray, List.set_cons_zero, List.set_cons_succ] at hK
            have e2 : s 2 = .int .i64 zs.length := hS.val_at 2 rfl (by decide) (hN.out 2 rfl)
            simp only [e2] at hK ⊢
            go_simp
            exact hK.out _ _ (hS.val rfl rfl (Below.refl _ _) rfl)
          · intro L s w9 hN hU hi hS K hK
            dsimp only at hK ⊢
            simp only [Act.put, List.setIfInBounds_toArray, List.set_cons_zero, List.set_cons_succ] at hK
            have e3 : s 3 = .bool false := hS.val_at 3 rfl (by decide) (hN.out 3 rfl)
            simp only [e3] at hK ⊢
            go_simp
            exact hK.out _ _ (hS.val rfl rfl (Below.refl _ _) rfl)
          · intro L s w9 hN hU hi hS K hK
            dsimp only at hK ⊢
            simp only [Act.put, List.setIfInBounds_toArray, List.set_cons_zero, List.set_cons_succ] at hK
            have e4 : s 4 = .bool false := hS.val_at 4 rfl (by decide) (hN.out 4 rfl)
            simp only [e4] at hK ⊢
            go_simp
            exact hK.out undef _ (hS.skip rfl rfl (Below.refl _ _))
          · intro L s w9 hN hU hi hS K hK
            dsimp only at hK ⊢
            simp only [Act.put, List.setIfInBounds_toArray, List.set_cons_zero, List.set_cons_succ] at hK
            have e4 : s 4 = .bool false := hS.val_at 4 rfl (by decide) (hN.out 4 rfl)
            simp only [e4] at hK ⊢
            go_simp
            exact hK.out undef _ (hS.skip rfl rfl (Below.refl _ _))
          · intro L s w9 hN hU hi hS K hK
            dsimp only at hK ⊢
            simp only [Act.put, List.setIfInBounds_toArray, List.set_cons_zero, List.set_cons_succ] at hK
            have e4 : s 4 = .bool false := hS.val_at 4 rfl (by decide) (hN.out 4 rfl)
            simp only [e4] at hK ⊢
            go_simp
            exact hK.out undef _ (hS.skip rfl rfl (Below.refl _ _))
          · intro L s w9 hN hU hi hS K hK
            dsimp only at hK ⊢
            simp only [Act.put, List.setIfInBounds_toArray, List.set_cons_zero, List.set_cons_succ] at hK
            have e4 : s 4 = .bool false := hS.val_at 4 rfl (by decide) (hN.out 4 rfl)
            simp only [e4] at hK ⊢
            go_simp
            exact hK.out undef _ (hS.skip rfl rfl (Below.refl _ _))
          · intro L s w9 hN hU hi hS K hK
            dsimp only at hK ⊢
            simp only [Act.put, List.setIfInBounds_toArray, List.set_cons_zero, List.set_cons_succ] at hK
            have e4 : s 4 = .bool false := hS.val_at 4 rfl (by decide) (hN.out 4 rfl)
            simp only [e4] at hK ⊢
            go_simp
            exact hK.out undef _ (hS.skip rfl rfl (Below.refl _ _))
          · intro L s w9 hN hU hi hS K hK
            dsimp only at hK ⊢
            simp only [Act.put, List.setIfInBounds_toArray, List.set_cons_zero, List.set_cons_succ] at hK
            have e4 : s 4 = .bool false := hS.val_at 4 rfl (by decide) (hN.out 4 rfl)
            simp only [e4] at hK ⊢
            go_simp
            exact hK.out undef _ (hS.skip rfl rfl (Below.refl _ _))
          · intro L s w9 hN hU hi hS K hK
            dsimp only at hK ⊢
            simp only [Act.put, List.setIfInBounds_toArray, List.set_cons_zero, List.set_cons_succ] at hK
            have e4 : s 4 = .bool false := hS.val_at 4 rfl (by decide) (hN.out 4 rfl)
            simp only [e4] at hK ⊢
            go_simp
            exact hK.out _ _ (hS.val rfl rfl (Below.refl _ _) rfl)
          · intro L s w9 hN hU hi hS K hK
            dsimp only at hK ⊢
            simp only [Act.put, List.setIfInBounds_toArray, List.set_cons_zero, List.set_cons_succ] at hK
            have e11 : s 11 = .bool false := hS.val_at 11 rfl (by decide) (hN.out 11 rfl)
            simp only [e11] at hK ⊢
            go_simp
            exact hK.out _ _ (hS.val rfl rfl (Below.refl _ _) rfl)
          · intro L s w9 hN hU hi hS K hK
            dsimp only at hK ⊢
            simp only [Act.put, List.setIfInBounds_toArray, List.set_cons_zero, List.set_cons_succ] at hK
            have e12 : s 12 = .bool false := hS.val_at 12 rfl (by decide) (hN.out 12 rfl)
            simp only [e12] at hK ⊢
            go_simp
            exact hK.out undef _ (hS.skip rfl rfl (Below.refl _ _))
          · intro L s w9 hN hU hi hS K hK
            dsimp only at hK ⊢
            simp only [Act.put, List.setIfInBounds_toArray, List.set_cons_zero, List.set_cons_succ] at hK
            have e12 : s 12 = .bool false := hS.val_at 12 rfl (by decide) (hN.out 12 rfl)
            simp only [e12] at hK ⊢
            go_simp
            exact hK.out undef _ (hS.skip rfl rfl (Below.refl _ _))
          · intro L s w9 hN hU hi hS K hK
            dsimp only at hK ⊢
            simp only [Act.put, List.setIfInBounds_toArray, List.set_cons_zero, List.set_cons_succ] at hK
            have e12 : s 12 = .bool false := hS.val_at 12 rfl (by decide) (hN.out 12 rfl)
            simp only [e12] at hK ⊢
            go_simp
            exact hK.out undef _ (hS.skip rfl rfl (Below.refl _ _))
          · intro L s w9 hN hU hi hS K hK
            dsimp only at hK ⊢
            simp only [Act.put, List.setIfInBounds_toArray, List.set_cons_zero, List.set_cons_succ] at hK
            have e12 : s 12 = .bool false := hS.val_at 12 rfl (by decide) (hN.out 12 rfl)
            simp only [e12] at hK ⊢
            go_simp
            exact hK.out undef _ (hS.skip rfl rfl (Below.refl _ _))
          · intro L s w9 hN hU hi hS K hK
            dsimp only at hK ⊢
            simp only [Act.put, List.setIfInBounds_toArray, List.set_cons_zero, List.set_cons_succ] at hK
            have e12 : s 12 = .bool false := hS.val_at 12 rfl (by decide) (hN.out 12 rfl)
            simp only [e12] at hK ⊢
            go_simp
            exact hK.out undef _ (hS.skip rfl rfl (Below.refl _ _))
          · intro L s w9 hN hU hi hS K hK
            dsimp only at hK ⊢
            simp only [Act.put, List.setIfInBounds_toArray, List.set_cons_zero, List.set_cons_succ] at hK
            have e12 : s 12 = .bool false := hS.val_at 12 rfl (by decide) (hN.out 12 rfl)
            simp only [e12] at hK ⊢
            go_simp
            exact hK.out undef _ (hS.skip rfl rfl (Below.refl _ _))
          · intro L s w9 hN hU hi hS K hK
            dsimp only at hK ⊢
            simp only [Act.put, List.setIfInBounds_toArray, List.set_cons_zero, List.set_cons_succ] at hK
            have e12 : s 12 = .bool false := hS.val_at 12 rfl (by decide) (hN.out 12 rfl)
            simp only [e12] at hK ⊢
            go_simp
            exact hK.out _ _ (hS.val rfl rfl (Below.refl _ _) rfl)
          · intro L s w9 hN hU hi hS K hK
            dsimp only at hK ⊢
            simp only [Act.put, List.setIfInBounds_toArray, List.set_cons_zero, List.set_cons_succ] at hK
            have e19 : s 19 = .bool false := hS.val_at 19 rfl (by decide) (hN.out 19 rfl)
            simp only [e19] at hK ⊢
            go_simp
            exact hK.out _ _ (hS.val rfl rfl (Below.refl _ _) rfl)
          · intro L s w9 hN hU hi hS K hK
            dsimp only at hK ⊢
            simp only [Act.put, List.setIfInBounds_toArray, List.set_cons_zero, List.set_cons_succ] at hK
            have e20 : s 20 = .bool false := hS.val_at 20 rfl (by decide) (hN.out 20 rfl)
            simp only [e20] at hK ⊢
            go_simp
            exact hK.out undef _ (hS.skip rfl rfl (Below.refl _ _))
          · intro L s w9 hN hU hi hS K hK
            dsimp only at hK ⊢
            simp only [Act.put, List.setIfInBounds_toArray, List.set_cons_zero, List.set_cons_succ] at hK
            have e20 : s 20 = .bool false := hS.val_at 20 rfl (by decide) (hN.out 20 rfl)
            simp only [e20] at hK ⊢
            go_simp
            exact hK.out undef _ (hS.skip rfl rfl (Below.refl _ _))
          · intro L s w9 hN hU hi hS K hK
            dsimp only at hK ⊢
            simp only [Act.put, List.setIfInBounds_toArray, List.set_cons_zero, List.set_cons_succ] at hK
            have e20 : s 20 = .bool false := hS.val_at 20 rfl (by decide) (hN.out 20 rfl)
            simp only [e20] at hK ⊢
            go_simp
            exact hK.out undef _ (hS.skip rfl rfl (Below.refl _ _))
          · intro L s w9 hN hU hi hS K hK
            dsimp only at hK ⊢
            simp only [Act.put, List.setIfInBounds_toArray, List.set_cons_zero, List.set_cons_succ] at hK
            have e20 : s 20 = .bool false := hS.val_at 20 rfl (by decide) (hN.out 20 rfl)
            simp only [e20] at hK ⊢
            go_simp
            exact hK.out undef _ (hS.skip rfl rfl (Below.refl _ _))
          · intro L s w9 hN hU hi hS K hK
            dsimp only at hK ⊢
            simp only [Act.put, List.setIfInBounds_toArray, List.set_cons_zero, List.set_cons_succ] at hK
            have e20 : s 20 = .bool false := hS.val_at 20 rfl (by decide) (hN.out 20 rfl)
            simp only [e20] at hK ⊢
            go_simp
            exact hK.out undef _ (hS.skip rfl rfl (Below.refl _ _))
          · intro L s w9 hN hU hi hS K hK
            dsimp only at hK ⊢
            simp only [Act.put, List.setIfInBounds_toArray, List.set_cons_zero, List.set_cons_succ] at hK
            have e20 : s 20 = .bool false := hS.val_at 20 rfl (by decide) (hN.out 20 rfl)
            simp only [e20] at hK ⊢
            go_simp
            exact hK.out undef _ (hS.skip rfl rfl (Below.refl _ _))
          · intro L s w9 hN hU hi hS K hK
            dsimp only at hK ⊢
            simp only [Act.put, List.setIfInBounds_toArray, List.set_cons_zero, List.set_cons_succ] at hK
            have e20 : s 20 = .bool false := hS.val_at 20 rfl (by decide) (hN.out 20 rfl)
            simp only [e20] at hK ⊢
            go_simp
            exact hK.out _ _ (hS.val rfl rfl (Below.refl _ _) rfl)
        intro L s w9 hall hS
        have e27 : s 27 = .bool false := hS.val_at 27 rfl (by decide) (hall 27 (by decide))
        rw [e27]
        go_wp2
        go_ret
        exact ⟨rfl, hS.mem.bel⟩
      · have hz0 : 0 < zs.length := List.length_pos_iff.2 hz
        have hz1 : decide ((0 : Int) < (zs.length : Int)) = true := decide_eq_true (by omega)
        have hz2 : decide (0 < zs.length) = true := decide_eq_true hz0
        have E1 := Lib.hid e1
        clear e1
        clear hz HC
        go_upto_region 13 with fail
        refine region_st (n := 28) (frame := ?frame5) (fun j => [.val (.fix (.pointer (some ⟨w.heap.size + 1 + 1, 1, none⟩))), .val (.fix (.slice D zs.length f)), .val (.fix (.int .i64 zs.length)), .val (.fix (.bool true)), .val (.fix (.bool true)), .val (.fix (Value.func (.func 21) #[] #[])), .val (.fix (iv l D zs.length f)), .val (.fix (iv l D zs.length f)), .val (.fix (iv n A xs.length c)), .val (.fix (iv n A xs.length c)), .val (.fix (.bool false)), .val (.fix (.bool false)), .val (.fix (.bool false)), .none, .none, .none, .none, .none, .none, .val (.fix (.bool false)), .val (.fix (.bool false)), .none, .none, .none, .none, .none, .none, .val (.fix (.bool false))].getD j .none) (by kernel_rfl) (by kernel_rfl) (by kernel_rfl) rfl M ?_ ?_ ?_
        case refine_1 =>
          intro s
          simp only [fr, Act.put, List.setIfInBounds_toArray, List.set_cons_zero, List.set_cons_succ, Nat.reduceAdd]
          rfl
        case refine_2 =>
          refine Steps.cons 0 (j := 1) rfl ?_ (Steps.cons 1 (j := 2) rfl ?_ (Steps.cons 2 (j := 3) rfl ?_ (Steps.cons 3 (j := 4) rfl ?_ (Steps.cons 4 (j := 5) rfl ?_ (Steps.cons 5 (j := 6) rfl ?_ (Steps.cons 6 (j := 7) rfl ?_ (Steps.cons 7 (j := 8) rfl ?_ (Steps.cons 8 (j := 9) rfl ?_ (Steps.cons 9 (j := 10) rfl ?_ (Steps.cons 10 (j := 11) rfl ?_ (Steps.cons 11 (j := 12) rfl ?_ (Steps.cons 12 (j := 13) rfl ?_ (Steps.cons 13 (j := 14) rfl ?_ (Steps.cons 14 (j := 15) rfl ?_ (Steps.cons 15 (j := 16) rfl ?_ (Steps.cons 16 (j := 17) rfl ?_ (Steps.cons 17 (j := 18) rfl ?_ (Steps.cons 18 (j := 19) rfl ?_ (Steps.cons 19 (j := 20) rfl ?_ (Steps.cons 20 (j := 21) rfl ?_ (Steps.cons 21 (j := 22) rfl ?_ (Steps.cons 22 (j := 23) rfl ?_ (Steps.cons 23 (j := 24) rfl ?_ (Steps.cons 24 (j := 25) rfl ?_ (Steps.cons 25 (j := 26) rfl ?_ (Steps.cons 26 (j := 27) rfl ?_ (Steps.cons 27 (j := 28) rfl ?_ Steps.nil)))))))))))))))))))))))))))
          · intro L s w9 hN hU hi hS K hK
            dsimp only at hK ⊢
            simp only [Act.put, List.setIfInBounds_toArray, List.set_cons_zero, List.set_cons_succ] at hK
            go_simp
            exact hK.out _ _ (hS.val rfl rfl (Below.refl _ _) rfl)
          · intro L s w9 hN hU hi hS K hK
            dsimp only at hK ⊢
            simp only [Act.put, List.setIfInBounds_toArray, List.set_cons_zero, List.set_cons_succ] at hK
            have e0 : s 0 = .pointer (some ⟨w.heap.size + 1 + 1, 1, none⟩) := hS.val_at 0 rfl (by decide) (hN.out 0 rfl)
            simp only [e0] at hK ⊢
            obtain ⟨u1, u2, _, _⟩ := (hS.mem.k (i := 1) rfl).both
            go_simp
            exact hK.out _ _ (hS.val rfl rfl (Below.refl _ _) rfl)
          · intro L s w9 hN hU hi hS K hK
            dsimp only at hK ⊢
            simp only [Act.put, List.setIfInBounds_toArray, List.set_cons_zero, List.set_cons_succ] at hK
            have e1 : s 1 = .slice D zs.length f := hS.val_at 1 rfl (by decide) (hN.out 1 rfl)
            simp only [e1] at hK ⊢
            go_simp
            exact hK.out _ _ (hS.val rfl rfl (Below.refl _ _) rfl)
          · intro L s w9 hN hU hi hS K hK
            dsimp only at hK ⊢
            simp only [Act.put, List.setIfInBounds_toArray, List.set_cons_zero, List.set_cons_succ] at hK
            have e2 : s 2 = .int .i64 zs.length := hS.val_at 2 rfl (by decide) (hN.out 2 rfl)
            simp only [e2] at hK ⊢
            go_simp
            exact hK.out _ _ (hS.val rfl rfl (Below.refl _ _) rfl)
          · intro L s w9 hN hU hi hS K hK
            dsimp only at hK ⊢
            simp only [Act.put, List.setIfInBounds_toArray, List.set_cons_zero, List.set_cons_succ] at hK
            have e3 : s 3 = .bool true := hS.val_at 3 rfl (by decide) (hN.out 3 rfl)
            simp only [e3] at hK ⊢
            go_simp
            exact hK.out _ _ (hS.val rfl rfl (Below.refl _ _) rfl)
          · intro L s w9 hN hU hi hS K hK
            dsimp only at hK ⊢
            simp only [Act.put, List.setIfInBounds_toArray, List.set_cons_zero, List.set_cons_succ] at hK
            have e4 : s 4 = .bool true := hS.val_at 4 rfl (by decide) (hN.out 4 rfl)
            simp only [e4] at hK ⊢
            go_simp
            exact hK.out _ _ (hS.val rfl rfl (Below.refl _ _) rfl)
          · intro L s w9 hN hU hi hS K hK
            dsimp only at hK ⊢
            simp only [Act.put, List.setIfInBounds_toArray, List.set_cons_zero, List.set_cons_succ] at hK
            have e4 : s 4 = .bool true := hS.val_at 4 rfl (by decide) (hN.out 4 rfl)
            simp only [e4] at hK ⊢
            obtain ⟨u1, u2, _, _⟩ := (hS.mem.k (i := 1) rfl).both
            go_simp
            exact hK.out _ _ (hS.val rfl rfl (Below.refl _ _) rfl)
          · intro L s w9 hN hU hi hS K hK
            dsimp only at hK ⊢
            simp only [Act.put, List.setIfInBounds_toArray, List.set_cons_zero, List.set_cons_succ] at hK
            have e6 : s 6 = iv l D zs.length f := hS.val_at 6 rfl (by decide) (hN.out 6 rfl)
            simp only [e6] at hK ⊢
            have e4 : s 4 = .bool true := hS.val_at 4 rfl (by decide) (hN.out 4 rfl)
            simp only [e4] at hK ⊢
            go_simp
            go_at_call 14
            refine (theirs_any _ _ _ _ _).mono ?_
            rintro e9 w10 ⟨rfl, q⟩
            exact hK.out _ _ (hS.val rfl rfl q rfl)
          · intro L s w9 hN hU hi hS K hK
            dsimp only at hK ⊢
            simp only [Act.put, List.setIfInBounds_toArray, List.set_cons_zero, List.set_cons_succ] at hK
            have e4 : s 4 = .bool true := hS.val_at 4 rfl (by decide) (hN.out 4 rfl)
            simp only [e4] at hK ⊢
            obtain ⟨u1, u2, _, _⟩ := (hS.mem.k (i := 3) rfl).both
            go_simp
            exact hK.out _ _ (hS.val rfl rfl (Below.refl _ _) rfl)
          · intro L s w9 hN hU hi hS K hK
            dsimp only at hK ⊢
            simp only [Act.put, List.setIfInBounds_toArray, List.set_cons_zero, List.set_cons_succ] at hK
            have e8 : s 8 = iv n A xs.length c := hS.val_at 8 rfl (by decide) (hN.out 8 rfl)
            simp only [e8] at hK ⊢
            have e4 : s 4 = .bool true := hS.val_at 4 rfl (by decide) (hN.out 4 rfl)
            simp only [e4] at hK ⊢
            go_simp
            go_at_call 14
            refine (theirs_any _ _ _ _ _).mono ?_
            rintro e9 w10 ⟨rfl, q⟩
            exact hK.out _ _ (hS.val rfl rfl q rfl)
          · intro L s w9 hN hU hi hS K hK
            dsimp only at hK ⊢
            simp only [Act.put, List.setIfInBounds_toArray, List.set_cons_zero, List.set_cons_succ] at hK
            have e5 : s 5 = Value.func (.func 21) #[] #[] := hS.val_at 5 rfl (by decide) (hN.out 5 rfl)
            simp only [e5] at hK ⊢
            have e7 : s 7 = iv l D zs.length f := hS.val_at 7 rfl (by decide) (hN.out 7 rfl)
            simp only [e7] at hK ⊢
            have e9 : s 9 = iv n A xs.length c := hS.val_at 9 rfl (by decide) (hN.out 9 rfl)
            simp only [e9] at hK ⊢
            have e4 : s 4 = .bool true := hS.val_at 4 rfl (by decide) (hN.out 4 rfl)
            simp only [e4] at hK ⊢
            go_simp
            go_at_call 21
            refine (dvd_use E1.out (hS.mem.r (i := 1) rfl) (hS.mem.r (i := 3) rfl)).mono ?_
            rintro e9 w10 ⟨rfl, q⟩
            exact hK.out _ _ (hS.val rfl rfl q rfl)
          · intro L s w9 hN hU hi hS K hK
            dsimp only at hK ⊢
            simp only [Act.put, List.setIfInBounds_toArray, List.set_cons_zero, List.set_cons_succ] at hK
            have e4 : s 4 = .bool true := hS.val_at 4 rfl (by decide) (hN.out 4 rfl)
            simp only [e4] at hK ⊢
            have e10 : s 10 = .bool false := hS.val_at 10 rfl (by decide) (hN.out 10 rfl)
            simp only [e10] at hK ⊢
            go_simp
            exact hK.out _ _ (hS.val rfl rfl (Below.refl _ _) rfl)
          · intro L s w9 hN hU hi hS K hK
            dsimp only at hK ⊢
            simp only [Act.put, List.setIfInBounds_toArray, List.set_cons_zero, List.set_cons_succ] at hK
            have e11 : s 11 = .bool false := hS.val_at 11 rfl (by decide) (hN.out 11 rfl)
            simp only [e11] at hK ⊢
            go_simp
            exact hK.out _ _ (hS.val rfl rfl (Below.refl _ _) rfl)
          · intro L s w9 hN hU hi hS K hK
            dsimp only at hK ⊢
            simp only [Act.put, List.setIfInBounds_toArray, List.set_cons_zero, List.set_cons_succ] at hK
            have e12 : s 12 = .bool false := hS.val_at 12 rfl (by decide) (hN.out 12 rfl)
            simp only [e12] at hK ⊢
            go_simp
            exact hK.out undef _ (hS.skip rfl rfl (Below.refl _ _))
          · intro L s w9 hN hU hi hS K hK
            dsimp only at hK ⊢
            simp only [Act.put, List.setIfInBounds_toArray, List.set_cons_zero, List.set_cons_succ] at hK
            have e12 : s 12 = .bool false := hS.val_at 12 rfl (by decide) (hN.out 12 rfl)
            simp only [e12] at hK ⊢
            go_simp
            exact hK.out undef _ (hS.skip rfl rfl (Below.refl _ _))
          · intro L s w9 hN hU hi hS K hK
            dsimp only at hK ⊢
            simp only [Act.put, List.setIfInBounds_toArray, List.set_cons_zero, List.set_cons_succ] at hK
            have e12 : s 12 = .bool false := hS.val_at 12 rfl (by decide) (hN.out 12 rfl)
            simp only [e12] at hK ⊢
            go_simp
            exact hK.out undef _ (hS.skip rfl rfl (Below.refl _ _))
          · intro L s w9 hN hU hi hS K hK
            dsimp only at hK ⊢
            simp only [Act.put, List.setIfInBounds_toArray, List.set_cons_zero, List.set_cons_succ] at hK
            have e12 : s 12 = .bool false := hS.val_at 12 rfl (by decide) (hN.out 12 rfl)
            simp only [e12] at hK ⊢
            go_simp
            exact hK.out undef _ (hS.skip rfl rfl (Below.refl _ _))
          · intro L s w9 hN hU hi hS K hK
            dsimp only at hK ⊢
            simp only [Act.put, List.setIfInBounds_toArray, List.set_cons_zero, List.set_cons_succ] at hK
            have e12 : s 12 = .bool false := hS.val_at 12 rfl (by decide) (hN.out 12 rfl)
            simp only [e12] at hK ⊢
            go_simp
            exact hK.out undef _ (hS.skip rfl rfl (Below.refl _ _))
          · intro L s w9 hN hU hi hS K hK
            dsimp only at hK ⊢
            simp only [Act.put, List.setIfInBounds_toArray, List.set_cons_zero, List.set_cons_succ] at hK
            have e12 : s 12 = .bool false := hS.val_at 12 rfl (by decide) (hN.out 12 rfl)
            simp only [e12] at hK ⊢
            go_simp
            exact hK.out undef _ (hS.skip rfl rfl (Below.refl _ _))
          · intro L s w9 hN hU hi hS K hK
            dsimp only at hK ⊢
            simp only [Act.put, List.setIfInBounds_toArray, List.set_cons_zero, List.set_cons_succ] at hK
            have e12 : s 12 = .bool false := hS.val_at 12 rfl (by decide) (hN.out 12 rfl)
            simp only [e12] at hK ⊢
            go_simp
            exact hK.out _ _ (hS.val rfl rfl (Below.refl _ _) rfl)
          · intro L s w9 hN hU hi hS K hK
            dsimp only at hK ⊢
            simp only [Act.put, List.setIfInBounds_toArray, List.set_cons_zero, List.set_cons_succ] at hK
            have e19 : s 19 = .bool false := hS.val_at 19 rfl (by decide) (hN.out 19 rfl)
            simp only [e19] at hK ⊢
            go_simp
            exact hK.out _ _ (hS.val rfl rfl (Below.refl _ _) rfl)
          · intro L s w9 hN hU hi hS K hK
            dsimp only at hK ⊢
            simp only [Act.put, List.setIfInBounds_toArray, List.set_cons_zero, List.set_cons_succ] at hK
            have e20 : s 20 = .bool false := hS.val_at 20 rfl (by decide) (hN.out 20 rfl)
            simp only [e20] at hK ⊢
            go_simp
            exact hK.out undef _ (hS.skip rfl rfl (Below.refl _ _))
          · intro L s w9 hN hU hi hS K hK
            dsimp only at hK ⊢
            simp only [Act.put, List.setIfInBounds_toArray, List.set_cons_zero, List.set_cons_succ] at hK
            have e20 : s 20 = .bool false := hS.val_at 20 rfl (by decide) (hN.out 20 rfl)
            simp only [e20] at hK ⊢
            go_simp
            exact hK.out undef _ (hS.skip rfl rfl (Below.refl _ _))
          · intro L s w9 hN hU hi hS K hK
            dsimp only at hK ⊢
            simp only [Act.put, List.setIfInBounds_toArray, List.set_cons_zero, List.set_cons_succ] at hK
            have e20 : s 20 = .bool false := hS.val_at 20 rfl (by decide) (hN.out 20 rfl)
            simp only [e20] at hK ⊢
            go_simp
            exact hK.out undef _ (hS.skip rfl rfl (Below.refl _ _))
          · intro L s w9 hN hU hi hS K hK
            dsimp only at hK ⊢
            simp only [Act.put, List.setIfInBounds_toArray, List.set_cons_zero, List.set_cons_succ] at hK
            have e20 : s 20 = .bool false := hS.val_at 20 rfl (by decide) (hN.out 20 rfl)
            simp only [e20] at hK ⊢
            go_simp
            exact hK.out undef _ (hS.skip rfl rfl (Below.refl _ _))
          · intro L s w9 hN hU hi hS K hK
            dsimp only at hK ⊢
            simp only [Act.put, List.setIfInBounds_toArray, List.set_cons_zero, List.set_cons_succ] at hK
            have e20 : s 20 = .bool false := hS.val_at 20 rfl (by decide) (hN.out 20 rfl)
            simp only [e20] at hK ⊢
            go_simp
            exact hK.out undef _ (hS.skip rfl rfl (Below.refl _ _))
          · intro L s w9 hN hU hi hS K hK
            dsimp only at hK ⊢
            simp only [Act.put, List.setIfInBounds_toArray, List.set_cons_zero, List.set_cons_succ] at hK
            have e20 : s 20 = .bool false := hS.val_at 20 rfl (by decide) (hN.out 20 rfl)
            simp only [e20] at hK ⊢
            go_simp
            exact hK.out undef _ (hS.skip rfl rfl (Below.refl _ _))
          · intro L s w9 hN hU hi hS K hK
            dsimp only at hK ⊢
            simp only [Act.put, List.setIfInBounds_toArray, List.set_cons_zero, List.set_cons_succ] at hK
            have e20 : s 20 = .bool false := hS.val_at 20 rfl (by decide) (hN.out 20 rfl)
            simp only [e20] at hK ⊢
            go_simp
            exact hK.out _ _ (hS.val rfl rfl (Below.refl _ _) rfl)
        intro L s w9 hall hS
        have e27 : s 27 = .bool false := hS.val_at 27 rfl (by decide) (hall 27 (by decide))
        rw [e27]
        go_wp2
        go_ret
        exact ⟨rfl, hS.mem.bel⟩
      · have hz0 : 0 < zs.length := List.length_pos_iff.2 hz
        have hz1 : decide ((0 : Int) < (zs.length : Int)) = true := decide_eq_true (by omega)
        have hz2 : decide (0 < zs.length) = true := decide_eq_true hz0
        have E1 := Lib.hid e1
        clear e1
        have E2 := Lib.hid e2
        clear e2
        clear hz HC
        go_upto_region 13 with fail
        refine region_st (n := 28) (frame := ?frame6) (fun j => [.val (.fix (.pointer (some ⟨w.heap.size + 1 + 1, 1, none⟩))), .val (.fix (.slice D zs.length f)), .val (.fix (.int .i64 zs.length)), .val (.fix (.bool true)), .val (.fix (.bool true)), .val (.fix (Value.func (.func 21) #[] #[])), .val (.fix (iv l D zs.length f)), .val (.fix (iv l D zs.length f)), .val (.fix (iv n A xs.length c)), .val (.fix (iv n A xs.length c)), .val (.fix (.bool true)), .val (.fix (.bool true)), .val (.fix (.bool true)), .val (.fix (Value.func (.func 21) #[] #[])), .val (.fix (iv l D zs.length f)), .val (.fix (iv l D zs.length f)), .val (.fix (iv m B ys.length d)), .val (.fix (iv m B ys.length d)), .val (.fix (.bool false)), .val (.fix (.bool false)), .val (.fix (.bool false)), .none, .none, .none, .none, .none, .none, .val (.fix (.bool false))].getD j .none) (by kernel_rfl) (by kernel_rfl) (by kernel_rfl) rfl M ?_ ?_ ?_
        case refine_1 =>
          intro s
          simp only [fr, Act.put, List.setIfInBounds_toArray, List.set_cons_zero, List.set_cons_succ, Nat.reduceAdd]
          rfl
        case refine_2 =>
          refine Steps.cons 0 (j := 1) rfl ?_ (Steps.cons 1 (j := 2) rfl ?_ (Steps.cons 2 (j := 3) rfl ?_ (Steps.cons 3 (j := 4) rfl ?_ (Steps.cons 4 (j := 5) rfl ?_ (Steps.cons 5 (j := 6) rfl ?_ (Steps.cons 6 (j := 7) rfl ?_ (Steps.cons 7 (j := 8) rfl ?_ (Steps.cons 8 (j := 9) rfl ?_ (Steps.cons 9 (j := 10) rfl ?_ (Steps.cons 10 (j := 11) rfl ?_ (Steps.cons 11 (j := 12) rfl ?_ (Steps.cons 12 (j := 13) rfl ?_ (Steps.cons 13 (j := 14) rfl ?_ (Steps.cons 14 (j := 15) rfl ?_ (Steps.cons 15 (j := 16) rfl ?_ (Steps.cons 16 (j := 17) rfl ?_ (Steps.cons 17 (j := 18) rfl ?_ (Steps.cons 18 (j := 19) rfl ?_ (Steps.cons 19 (j := 20) rfl ?_ (Steps.cons 20 (j := 21) rfl ?_ (Steps.cons 21 (j := 22) rfl ?_ (Steps.cons 22 (j := 23) rfl ?_ (Steps.cons 23 (j := 24) rfl ?_ (Steps.cons 24 (j := 25) rfl ?_ (Steps.cons 25 (j := 26) rfl ?_ (Steps.cons 26 (j := 27) rfl ?_ (Steps.cons 27 (j := 28) rfl ?_ Steps.nil)))))))))))))))))))))))))))
          · intro L s w9 hN hU hi hS K hK
            dsimp only at hK ⊢
            simp only [Act.put, List.setIfInBounds_toArray, List.set_cons_zero, List.set_cons_succ] at hK
            go_simp
            exact hK.out _ _ (hS.val rfl rfl (Below.refl _ _) rfl)
          · intro L s w9 hN hU hi hS K hK
            dsimp only at hK ⊢
            simp only [Act.put, List.setIfInBounds_toArray, List.set_cons_zero, List.set_cons_succ] at hK
            have e0 : s 0 = .pointer (some ⟨w.heap.size + 1 + 1, 1, none⟩) := hS.val_at 0 rfl (by decide) (hN.out 0 rfl)
            simp only [e0] at hK ⊢
            obtain ⟨u1, u2, _, _⟩ := (hS.mem.k (i := 1) rfl).both
            go_simp
            exact hK.out _ _ (hS.val rfl rfl (Below.refl _ _) rfl)
          · intro L s w9 hN hU hi hS K hK
            dsimp only at hK ⊢
            simp only [Act.put, List.setIfInBounds_toArray, List.set_cons_zero, List.set_cons_succ] at hK
            have e1 : s 1 = .slice D zs.length f := hS.val_at 1 rfl (by decide) (hN.out 1 rfl)
            simp only [e1] at hK ⊢
            go_simp
            exact hK.out _ _ (hS.val rfl rfl (Below.refl _ _) rfl)
          · intro L s w9 hN hU hi hS K hK
            dsimp only at hK ⊢
            simp only [Act.put, List.setIfInBounds_toArray, List.set_cons_zero, List.set_cons_succ] at hK
            have e2 : s 2 = .int .i64 zs.length := hS.val_at 2 rfl (by decide) (hN.out 2 rfl)
            simp only [e2] at hK ⊢
            go_simp
            exact hK.out _ _ (hS.val rfl rfl (Below.refl _ _) rfl)
          · intro L s w9 hN hU hi hS K hK
            dsimp only at hK ⊢
            simp only [Act.put, List.setIfInBounds_toArray, List.set_cons_zero, List.set_cons_succ] at hK
            have e3 : s 3 = .bool true := hS.val_at 3 rfl (by decide) (hN.out 3 rfl)
            simp only [e3] at hK ⊢
            go_simp
            exact hK.out _ _ (hS.val rfl rfl (Below.refl _ _) rfl)
          · intro L s w9 hN hU hi hS K hK
            dsimp only at hK ⊢
            simp only [Act.put, List.setIfInBounds_toArray, List.set_cons_zero, List.set_cons_succ] at hK
            have e4 : s 4 = .bool true := hS.val_at 4 rfl (by decide) (hN.out 4 rfl)
            simp only [e4] at hK ⊢
            go_simp
            exact hK.out _ _ (hS.val rfl rfl (Below.refl _ _) rfl)
          · intro L s w9 hN hU hi hS K hK
            dsimp only at hK ⊢
            simp only [Act.put, List.setIfInBounds_toArray, List.set_cons_zero, List.set_cons_succ] at hK
            have e4 : s 4 = .bool true := hS.val_at 4 rfl (by decide) (hN.out 4 rfl)
            simp only [e4] at hK ⊢
            obtain ⟨u1, u2, _, _⟩ := (hS.mem.k (i := 1) rfl).both
            go_simp
            exact hK.out _ _ (hS.val rfl rfl (Below.refl _ _) rfl)
          · intro L s w9 hN hU hi hS K hK
            dsimp only at hK ⊢
            simp only [Act.put, List.setIfInBounds_toArray, List.set_cons_zero, List.set_cons_succ] at hK
            have e6 : s 6 = iv l D zs.length f := hS.val_at 6 rfl (by decide) (hN.out 6 rfl)
            simp only [e6] at hK ⊢
            have e4 : s 4 = .bool true := hS.val_at 4 rfl (by decide) (hN.out 4 rfl)
            simp only [e4] at hK ⊢
            go_simp
            go_at_call 14
            refine (theirs_any _ _ _ _ _).mono ?_
            rintro e9 w10 ⟨rfl, q⟩
            exact hK.out _ _ (hS.val rfl rfl q rfl)
          · intro L s w9 hN hU hi hS K hK
            dsimp only at hK ⊢
            simp only [Act.put, List.setIfInBounds_toArray, List.set_cons_zero, List.set_cons_succ] at hK
            have e4 : s 4 = .bool true := hS.val_at 4 rfl (by decide) (hN.out 4 rfl)
            simp only [e4] at hK ⊢
            obtain ⟨u1, u2, _, _⟩ := (hS.mem.k (i := 3) rfl).both
            go_simp
            exact hK.out _ _ (hS.val rfl rfl (Below.refl _ _) rfl)
          · intro L s w9 hN hU hi hS K hK
            dsimp only at hK ⊢
            simp only [Act.put, List.setIfInBounds_toArray, List.set_cons_zero, List.set_cons_succ] at hK
            have e8 : s 8 = iv n A xs.length c := hS.val_at 8 rfl (by decide) (hN.out 8 rfl)
            simp only [e8] at hK ⊢
            have e4 : s 4 = .bool true := hS.val_at 4 rfl (by decide) (hN.out 4 rfl)
            simp only [e4] at hK ⊢
            go_simp
            go_at_call 14
            refine (theirs_any _ _ _ _ _).mono ?_
            rintro e9 w10 ⟨rfl, q⟩
            exact hK.out _ _ (hS.val rfl rfl q rfl)
          · intro L s w9 hN hU hi hS K hK
            dsimp only at hK ⊢
            simp only [Act.put, List.setIfInBounds_toArray, List.set_cons_zero, List.set_cons_succ] at hK
            have e5 : s 5 = Value.func (.func 21) #[] #[] := hS.val_at 5 rfl (by decide) (hN.out 5 rfl)
            simp only [e5] at hK ⊢
            have e7 : s 7 = iv l D zs.length f := hS.val_at 7 rfl (by decide) (hN.out 7 rfl)
            simp only [e7] at hK ⊢
            have e9 : s 9 = iv n A xs.length c := hS.val_at 9 rfl (by decide) (hN.out 9 rfl)
            simp only [e9] at hK ⊢
            have e4 : s 4 = .bool true := hS.val_at 4 rfl (by decide) (hN.out 4 rfl)
            simp only [e4] at hK ⊢
            go_simp
            go_at_call 21
            refine (dvd_use E1.out (hS.mem.r (i := 1) rfl) (hS.mem.r (i := 3) rfl)).mono ?_
            rintro e9 w10 ⟨rfl, q⟩
            exact hK.out _ _ (hS.val rfl rfl q rfl)
          · intro L s w9 hN hU hi hS K hK
            dsimp only at hK ⊢
            simp only [Act.put, List.setIfInBounds_toArray, List.set_cons_zero, List.set_cons_succ] at hK
            have e4 : s 4 = .bool true := hS.val_at 4 rfl (by decide) (hN.out 4 rfl)
            simp only [e4] at hK ⊢
            have e10 : s 10 = .bool true := hS.val_at 10 rfl (by decide) (hN.out 10 rfl)
            simp only [e10] at hK ⊢
            go_simp
            exact hK.out _ _ (hS.val rfl rfl (Below.refl _ _) rfl)
          · intro L s w9 hN hU hi hS K hK
            dsimp only at hK ⊢
            simp only [Act.put, List.setIfInBounds_toArray, List.set_cons_zero, List.set_cons_succ] at hK
            have e11 : s 11 = .bool true := hS.val_at 11 rfl (by decide) (hN.out 11 rfl)
            simp only [e11] at hK ⊢
            go_simp
            exact hK.out _ _ (hS.val rfl rfl (Below.refl _ _) rfl)
          · intro L s w9 hN hU hi hS K hK
            dsimp only at hK ⊢
            simp only [Act.put, List.setIfInBounds_toArray, List.set_cons_zero, List.set_cons_succ] at hK
            have e12 : s 12 = .bool true := hS.val_at 12 rfl (by decide) (hN.out 12 rfl)
            simp only [e12] at hK ⊢
            go_simp
            exact hK.out _ _ (hS.val rfl rfl (Below.refl _ _) rfl)
          · intro L s w9 hN hU hi hS K hK
            dsimp only at hK ⊢
            simp only [Act.put, List.setIfInBounds_toArray, List.set_cons_zero, List.set_cons_succ] at hK
            have e12 : s 12 = .bool true := hS.val_at 12 rfl (by decide) (hN.out 12 rfl)
            simp only [e12] at hK ⊢
            obtain ⟨u1, u2, _, _⟩ := (hS.mem.k (i := 1) rfl).both
            go_simp
            exact hK.out _ _ (hS.val rfl rfl (Below.refl _ _) rfl)
          · intro L s w9 hN hU hi hS K hK
            dsimp only at hK ⊢
            simp only [Act.put, List.setIfInBounds_toArray, List.set_cons_zero, List.set_cons_succ] at hK
            have e14 : s 14 = iv l D zs.length f := hS.val_at 14 rfl (by decide) (hN.out 14 rfl)
            simp only [e14] at hK ⊢
            have e12 : s 12 = .bool true := hS.val_at 12 rfl (by decide) (hN.out 12 rfl)
            simp only [e12] at hK ⊢
            go_simp
            go_at_call 14
            refine (theirs_any _ _ _ _ _).mono ?_
            rintro e9 w10 ⟨rfl, q⟩
            exact hK.out _ _ (hS.val rfl rfl q rfl)
          · intro L s w9 hN hU hi hS K hK
            dsimp only at hK ⊢
            simp only [Act.put, List.setIfInBounds_toArray, List.set_cons_zero, List.set_cons_succ] at hK
            have e12 : s 12 = .bool true := hS.val_at 12 rfl (by decide) (hN.out 12 rfl)
            simp only [e12] at hK ⊢
            obtain ⟨u1, u2, _, _⟩ := (hS.mem.k (i := 2) rfl).both
            go_simp
            exact hK.out _ _ (hS.val rfl rfl (Below.refl _ _) rfl)
          · intro L s w9 hN hU hi hS K hK
            dsimp only at hK ⊢
            simp only [Act.put, List.setIfInBounds_toArray, List.set_cons_zero, List.set_cons_succ] at hK
            have e16 : s 16 = iv m B ys.length d := hS.val_at 16 rfl (by decide) (hN.out 16 rfl)
            simp only [e16] at hK ⊢
            have e12 : s 12 = .bool true := hS.val_at 12 rfl (by decide) (hN.out 12 rfl)
            simp only [e12] at hK ⊢
            go_simp
            go_at_call 14
            refine (theirs_any _ _ _ _ _).mono ?_
            rintro e9 w10 ⟨rfl, q⟩
            exact hK.out _ _ (hS.val rfl rfl q rfl)
          · intro L s w9 hN hU hi hS K hK
            dsimp only at hK ⊢
            simp only [Act.put, List.setIfInBounds_toArray, List.set_cons_zero, List.set_cons_succ] at hK
            have e13 : s 13 = Value.func (.func 21) #[] #[] := hS.val_at 13 rfl (by decide) (hN.out 13 rfl)
            simp only [e13] at hK ⊢
            have e15 : s 15 = iv l D zs.length f := hS.val_at 15 rfl (by decide) (hN.out 15 rfl)
            simp only [e15] at hK ⊢
            have e17 : s 17 = iv m B ys.length d := hS.val_at 17 rfl (by decide) (hN.out 17 rfl)
            simp only [e17] at hK ⊢
            have e12 : s 12 = .bool true := hS.val_at 12 rfl (by decide) (hN.out 12 rfl)
            simp only [e12] at hK ⊢
            go_simp
            go_at_call 21
            refine (dvd_use E2.out (hS.mem.r (i := 1) rfl) (hS.mem.r (i := 2) rfl)).mono ?_
            rintro e9 w10 ⟨rfl, q⟩
            exact hK.out _ _ (hS.val rfl rfl q rfl)
          · intro L s w9 hN hU hi hS K hK
            dsimp only at hK ⊢
            simp only [Act.put, List.setIfInBounds_toArray, List.set_cons_zero, List.set_cons_succ] at hK
            have e12 : s 12 = .bool true := hS.val_at 12 rfl (by decide) (hN.out 12 rfl)
            simp only [e12] at hK ⊢
            have e18 : s 18 = .bool false := hS.val_at 18 rfl (by decide) (hN.out 18 rfl)
            simp only [e18] at hK ⊢
            go_simp
            exact hK.out _ _ (hS.val rfl rfl (Below.refl _ _) rfl)
          · intro L s w9 hN hU hi hS K hK
            dsimp only at hK ⊢
            simp only [Act.put, List.setIfInBounds_toArray, List.set_cons_zero, List.set_cons_succ] at hK
            have e19 : s 19 = .bool false := hS.val_at 19 rfl (by decide) (hN.out 19 rfl)
            simp only [e19] at hK ⊢
            go_simp
            exact hK.out _ _ (hS.val rfl rfl (Below.refl _ _) rfl)
          · intro L s w9 hN hU hi hS K hK
            dsimp only at hK ⊢
            simp only [Act.put, List.setIfInBounds_toArray, List.set_cons_zero, List.set_cons_succ] at hK
            have e20 : s 20 = .bool false := hS.val_at 20 rfl (by decide) (hN.out 20 rfl)
            simp only [e20] at hK ⊢
            go_simp
            exact hK.out undef _ (hS.skip rfl rfl (Below.refl _ _))
          · intro L s w9 hN hU hi hS K hK
            dsimp only at hK ⊢
            simp only [Act.put, List.setIfInBounds_toArray, List.set_cons_zero, List.set_cons_succ] at hK
            have e20 : s 20 = .bool false := hS.val_at 20 rfl (by decide) (hN.out 20 rfl)
            simp only [e20] at hK ⊢
            go_simp
            exact hK.out undef _ (hS.skip rfl rfl (Below.refl _ _))
          · intro L s w9 hN hU hi hS K hK
            dsimp only at hK ⊢
            simp only [Act.put, List.setIfInBounds_toArray, List.set_cons_zero, List.set_cons_succ] at hK
            have e20 : s 20 = .bool false := hS.val_at 20 rfl (by decide) (hN.out 20 rfl)
            simp only [e20] at hK ⊢
            go_simp
            exact hK.out undef _ (hS.skip rfl rfl (Below.refl _ _))
          · intro L s w9 hN hU hi hS K hK
            dsimp only at hK ⊢
            simp only [Act.put, List.setIfInBounds_toArray, List.set_cons_zero, List.set_cons_succ] at hK
            have e20 : s 20 = .bool false := hS.val_at 20 rfl (by decide) (hN.out 20 rfl)
            simp only [e20] at hK ⊢
            go_simp
            exact hK.out undef _ (hS.skip rfl rfl (Below.refl _ _))
          · intro L s w9 hN hU hi hS K hK
            dsimp only at hK ⊢
            simp only [Act.put, List.setIfInBounds_toArray, List.set_cons_zero, List.set_cons_succ] at hK
            have e20 : s 20 = .bool false := hS.val_at 20 rfl (by decide) (hN.out 20 rfl)
            simp only [e20] at hK ⊢
            go_simp
            exact hK.out undef _ (hS.skip rfl rfl (Below.refl _ _))
          · intro L s w9 hN hU hi hS K hK
            dsimp only at hK ⊢
            simp only [Act.put, List.setIfInBounds_toArray, List.set_cons_zero, List.set_cons_succ] at hK
            have e20 : s 20 = .bool false := hS.val_at 20 rfl (by decide) (hN.out 20 rfl)
            simp only [e20] at hK ⊢
            go_simp
            exact hK.out undef _ (hS.skip rfl rfl (Below.refl _ _))
          · intro L s w9 hN hU hi hS K hK
            dsimp only at hK ⊢
            simp only [Act.put, List.setIfInBounds_toArray, List.set_cons_zero, List.set_cons_succ] at hK
            have e20 : s 20 = .bool false := hS.val_at 20 rfl (by decide) (hN.out 20 rfl)
            simp only [e20] at hK ⊢
            go_simp
            exact hK.out _ _ (hS.val rfl rfl (Below.refl _ _) rfl)
        intro L s w9 hall hS
        have e27 : s 27 = .bool false := hS.val_at 27 rfl (by decide) (hall 27 (by decide))
        rw [e27]
        go_wp2
        go_ret
        exact ⟨rfl, hS.mem.bel⟩
      · have hz0 : 0 < zs.length := List.length_pos_iff.2 hz
        have hz1 : decide ((0 : Int) < (zs.length : Int)) = true := decide_eq_true (by omega)
        have hz2 : decide (0 < zs.length) = true := decide_eq_true hz0
        have E1 := Lib.hid e1
        clear e1
        have E2 := Lib.hid e2
        clear e2
        have E3 := Lib.hid e3
        clear e3
        clear hz HC
        go_upto_region 13 with fail
        refine region_st (n := 28) (frame := ?frame7) (fun j => [.val (.fix (.pointer (some ⟨w.heap.size + 1 + 1, 1, none⟩))), .val (.fix (.slice D zs.length f)), .val (.fix (.int .i64 zs.length)), .val (.fix (.bool true)), .val (.fix (.bool true)), .val (.fix (Value.func (.func 21) #[] #[])), .val (.fix (iv l D zs.length f)), .val (.fix (iv l D zs.length f)), .val (.fix (iv n A xs.length c)), .val (.fix (iv n A xs.length c)), .val (.fix (.bool true)), .val (.fix (.bool true)), .val (.fix (.bool true)), .val (.fix (Value.func (.func 21) #[] #[])), .val (.fix (iv l D zs.length f)), .val (.fix (iv l D zs.length f)), .val (.fix (iv m B ys.length d)), .val (.fix (iv m B ys.length d)), .val (.fix (.bool true)), .val (.fix (.bool true)), .val (.fix (.bool true)), .val (.fix (Value.func (.func 21) #[] #[])), .val (.fix (iv l D zs.length f)), .val (.fix (iv l D zs.length f)), .val (.fix (iv false A1 gs.length c1)), .val (.fix (.bool true)), .val (.fix (.bool false)), .val (.fix (.bool false))].getD j .none) (by kernel_rfl) (by kernel_rfl) (by kernel_rfl) rfl M ?_ ?_ ?_
        case refine_1 =>
          intro s
          simp only [fr, Act.put, List.setIfInBounds_toArray, List.set_cons_zero, List.set_cons_succ, Nat.reduceAdd]
          rfl
        case refine_2 =>
          refine Steps.cons 0 (j := 1) rfl ?_ (Steps.cons 1 (j := 2) rfl ?_ (Steps.cons 2 (j := 3) rfl ?_ (Steps.cons 3 (j := 4) rfl ?_ (Steps.cons 4 (j := 5) rfl ?_ (Steps.cons 5 (j := 6) rfl ?_ (Steps.cons 6 (j := 7) rfl ?_ (Steps.cons 7 (j := 8) rfl ?_ (Steps.cons 8 (j := 9) rfl ?_ (Steps.cons 9 (j := 10) rfl ?_ (Steps.cons 10 (j := 11) rfl ?_ (Steps.cons 11 (j := 12) rfl ?_ (Steps.cons 12 (j := 13) rfl ?_ (Steps.cons 13 (j := 14) rfl ?_ (Steps.cons 14 (j := 15) rfl ?_ (Steps.cons 15 (j := 16) rfl ?_ (Steps.cons 16 (j := 17) rfl ?_ (Steps.cons 17 (j := 18) rfl ?_ (Steps.cons 18 (j := 19) rfl ?_ (Steps.cons 19 (j := 20) rfl ?_ (Steps.cons 20 (j := 21) rfl ?_ (Steps.cons 21 (j := 22) rfl ?_ (Steps.cons 22 (j := 23) rfl ?_ (Steps.cons 23 (j := 24) rfl ?_ (Steps.cons 24 (j := 25) rfl ?_ (Steps.cons 25 (j := 26) rfl ?_ (Steps.cons 26 (j := 27) rfl ?_ (Steps.cons 27 (j := 28) rfl ?_ Steps.nil)))))))))))))))))))))))))))
          · intro L s w9 hN hU hi hS K hK
            dsimp only at hK ⊢
            simp only [Act.put, List.setIfInBounds_toArray, List.set_cons_zero, List.set_cons_succ] at hK
            go_simp
            exact hK.out _ _ (hS.val rfl rfl (Below.refl _ _) rfl)
          · intro L s w9 hN hU hi hS K hK
            dsimp only at hK ⊢
            simp only [Act.put, List.setIfInBounds_toArray, List.set_cons_zero, List.set_cons_succ] at hK
            have e0 : s 0 = .pointer (some ⟨w.heap.size + 1 + 1, 1, none⟩) := hS.val_at 0 rfl (by decide) (hN.out 0 rfl)
            simp only [e0] at hK ⊢
            obtain ⟨u1, u2, _, _⟩ := (hS.mem.k (i := 1) rfl).both
            go_simp
            exact hK.out _ _ (hS.val rfl rfl (Below.refl _ _) rfl)
          · intro L s w9 hN hU hi hS K hK
            dsimp only at hK ⊢
            simp only [Act.put, List.setIfInBounds_toArray, List.set_cons_zero, List.set_cons_succ] at hK
            have e1 : s 1 = .slice D zs.length f := hS.val_at 1 rfl (by decide) (hN.out 1 rfl)
            simp only [e1] at hK ⊢
            go_simp
            exact hK.out _ _ (hS.val rfl rfl (Below.refl _ _) rfl)
          · intro L s w9 hN hU hi hS K hK
            dsimp only at hK ⊢
            simp only [Act.put, List.setIfInBounds_toArray, List.set_cons_zero, List.set_cons_succ] at hK
            have e2 : s 2 = .int .i64 zs.length := hS.val_at 2 rfl (by decide) (hN.out 2 rfl)
            simp only [e2] at hK ⊢
            go_simp
            exact hK.out _ _ (hS.val rfl rfl (Below.refl _ _) rfl)
          · intro L s w9 hN hU hi hS K hK
            dsimp only at hK ⊢
            simp only [Act.put, List.setIfInBounds_toArray, List.set_cons_zero, List.set_cons_succ] at hK
            have e3 : s 3 = .bool true := hS.val_at 3 rfl (by decide) (hN.out 3 rfl)
            simp only [e3] at hK ⊢
            go_simp
            exact hK.out _ _ (hS.val rfl rfl (Below.refl _ _) rfl)
          · intro L s w9 hN hU hi hS K hK
            dsimp only at hK ⊢
            simp only [Act.put, List.setIfInBounds_toArray, List.set_cons_zero, List.set_cons_succ] at hK
            have e4 : s 4 = .bool true := hS.val_at 4 rfl (by decide) (hN.out 4 rfl)
            simp only [e4] at hK ⊢
            go_simp
            exact hK.out _ _ (hS.val rfl rfl (Below.refl _ _) rfl)
          · intro L s w9 hN hU hi hS K hK
            dsimp only at hK ⊢
            simp only [Act.put, List.setIfInBounds_toArray, List.set_cons_zero, List.set_cons_succ] at hK
            have e4 : s 4 = .bool true := hS.val_at 4 rfl (by decide) (hN.out 4 rfl)
            simp only [e4] at hK ⊢
            obtain ⟨u1, u2, _, _⟩ := (hS.mem.k (i := 1) rfl).both
            go_simp
            exact hK.out _ _ (hS.val rfl rfl (Below.refl _ _) rfl)
          · intro L s w9 hN hU hi hS K hK
            dsimp only at hK ⊢
            simp only [Act.put, List.setIfInBounds_toArray, List.set_cons_zero, List.set_cons_succ] at hK
            have e6 : s 6 = iv l D zs.length f := hS.val_at 6 rfl (by decide) (hN.out 6 rfl)
            simp only [e6] at hK ⊢
            have e4 : s 4 = .bool true := hS.val_at 4 rfl (by decide) (hN.out 4 rfl)
            simp only [e4] at hK ⊢
            go_simp
            go_at_call 14
            refine (theirs_any _ _ _ _ _).mono ?_
            rintro e9 w10 ⟨rfl, q⟩
            exact hK.out _ _ (hS.val rfl rfl q rfl)
          · intro L s w9 hN hU hi hS K hK
            dsimp only at hK ⊢
            simp only [Act.put, List.setIfInBounds_toArray, List.set_cons_zero, List.set_cons_succ] at hK
            have e4 : s 4 = .bool true := hS.val_at 4 rfl (by decide) (hN.out 4 rfl)
            simp only [e4] at hK ⊢
            obtain ⟨u1, u2, _, _⟩ := (hS.mem.k (i := 3) rfl).both
            go_simp
            exact hK.out _ _ (hS.val rfl rfl (Below.refl _ _) rfl)
          · intro L s w9 hN hU hi hS K hK
            dsimp only at hK ⊢
            simp only [Act.put, List.setIfInBounds_toArray, List.set_cons_zero, List.set_cons_succ] at hK
            have e8 : s 8 = iv n A xs.length c := hS.val_at 8 rfl (by decide) (hN.out 8 rfl)
            simp only [e8] at hK ⊢
            have e4 : s 4 = .bool true := hS.val_at 4 rfl (by decide) (hN.out 4 rfl)
            simp only [e4] at hK ⊢
            go_simp
            go_at_call 14
            refine (theirs_any _ _ _ _ _).mono ?_
            rintro e9 w10 ⟨rfl, q⟩
            exact hK.out _ _ (hS.val rfl rfl q rfl)
          · intro L s w9 hN hU hi hS K hK
            dsimp only at hK ⊢
            simp only [Act.put, List.setIfInBounds_toArray, List.set_cons_zero, List.set_cons_succ] at hK
            have e5 : s 5 = Value.func (.func 21) #[] #[] := hS.val_at 5 rfl (by decide) (hN.out 5 rfl)
            simp only [e5] at hK ⊢
            have e7 : s 7 = iv l D zs.length f := hS.val_at 7 rfl (by decide) (hN.out 7 rfl)
            simp only [e7] at hK ⊢
            have e9 : s 9 = iv n A xs.length c := hS.val_at 9 rfl (by decide) (hN.out 9 rfl)
            simp only [e9] at hK ⊢
            have e4 : s 4 = .bool true := hS.val_at 4 rfl (by decide) (hN.out 4 rfl)
            simp only [e4] at hK ⊢
            go_simp
            go_at_call 21
            refine (dvd_use E1.out (hS.mem.r (i := 1) rfl) (hS.mem.r (i := 3) rfl)).mono ?_
            rintro e9 w10 ⟨rfl, q⟩
            exact hK.out _ _ (hS.val rfl rfl q rfl)
          · intro L s w9 hN hU hi hS K hK
            dsimp only at hK ⊢
            simp only [Act.put, List.setIfInBounds_toArray, List.set_cons_zero, List.set_cons_succ] at hK
            have e4 : s 4 = .bool true := hS.val_at 4 rfl (by decide) (hN.out 4 rfl)
            simp only [e4] at hK ⊢
            have e10 : s 10 = .bool true := hS.val_at 10 rfl (by decide) (hN.out 10 rfl)
            simp only [e10] at hK ⊢
            go_simp
            exact hK.out _ _ (hS.val rfl rfl (Below.refl _ _) rfl)
          · intro L s w9 hN hU hi hS K hK
            dsimp only at hK ⊢
            simp only [Act.put, List.setIfInBounds_toArray, List.set_cons_zero, List.set_cons_succ] at hK
            have e11 : s 11 = .bool true := hS.val_at 11 rfl (by decide) (hN.out 11 rfl)
            simp only [e11] at hK ⊢
            go_simp
            exact hK.out _ _ (hS.val rfl rfl (Below.refl _ _) rfl)
          · intro L s w9 hN hU hi hS K hK
            dsimp only at hK ⊢
            simp only [Act.put, List.setIfInBounds_toArray, List.set_cons_zero, List.set_cons_succ] at hK
            have e12 : s 12 = .bool true := hS.val_at 12 rfl (by decide) (hN.out 12 rfl)
            simp only [e12] at hK ⊢
            go_simp
            exact hK.out _ _ (hS.val rfl rfl (Below.refl _ _) rfl)
          · intro L s w9 hN hU hi hS K hK
            dsimp only at hK ⊢
            simp only [Act.put, List.setIfInBounds_toArray, List.set_cons_zero, List.set_cons_succ] at hK
            have e12 : s 12 = .bool true := hS.val_at 12 rfl (by decide) (hN.out 12 rfl)
            simp only [e12] at hK ⊢
            obtain ⟨u1, u2, _, _⟩ := (hS.mem.k (i := 1) rfl).both
            go_simp
            exact hK.out _ _ (hS.val rfl rfl (Below.refl _ _) rfl)
          · intro L s w9 hN hU hi hS K hK
            dsimp only at hK ⊢
            simp only [Act.put, List.setIfInBounds_toArray, List.set_cons_zero, List.set_cons_succ] at hK
            have e14 : s 14 = iv l D zs.length f := hS.val_at 14 rfl (by decide) (hN.out 14 rfl)
            simp only [e14] at hK ⊢
            have e12 : s 12 = .bool true := hS.val_at 12 rfl (by decide) (hN.out 12 rfl)
            simp only [e12] at hK ⊢
            go_simp
            go_at_call 14
            refine (theirs_any _ _ _ _ _).mono ?_
            rintro e9 w10 ⟨rfl, q⟩
            exact hK.out _ _ (hS.val rfl rfl q rfl)
          · intro L s w9 hN hU hi hS K hK
            dsimp only at hK ⊢
            simp only [Act.put, List.setIfInBounds_toArray, List.set_cons_zero, List.set_cons_succ] at hK
            have e12 : s 12 = .bool true := hS.val_at 12 rfl (by decide) (hN.out 12 rfl)
            simp only [e12] at hK ⊢
            obtain ⟨u1, u2, _, _⟩ := (hS.mem.k (i := 2) rfl).both
            go_simp
            exact hK.out _ _ (hS.val rfl rfl (Below.refl _ _) rfl)
          · intro L s w9 hN hU hi hS K hK
            dsimp only at hK ⊢
            simp only [Act.put, List.setIfInBounds_toArray, List.set_cons_zero, List.set_cons_succ] at hK
            have e16 : s 16 = iv m B ys.length d := hS.val_at 16 rfl (by decide) (hN.out 16 rfl)
            simp only [e16] at hK ⊢
            have e12 : s 12 = .bool true := hS.val_at 12 rfl (by decide) (hN.out 12 rfl)
            simp only [e12] at hK ⊢
            go_simp
            go_at_call 14
            refine (theirs_any _ _ _ _ _).mono ?_
            rintro e9 w10 ⟨rfl, q⟩
            exact hK.out _ _ (hS.val rfl rfl q rfl)
          · intro L s w9 hN hU hi hS K hK
            dsimp only at hK ⊢
            simp only [Act.put, List.setIfInBounds_toArray, List.set_cons_zero, List.set_cons_succ] at hK
            have e13 : s 13 = Value.func (.func 21) #[] #[] := hS.val_at 13 rfl (by decide) (hN.out 13 rfl)
            simp only [e13] at hK ⊢
            have e15 : s 15 = iv l D zs.length f := hS.val_at 15 rfl (by decide) (hN.out 15 rfl)
            simp only [e15] at hK ⊢
            have e17 : s 17 = iv m B ys.length d := hS.val_at 17 rfl (by decide) (hN.out 17 rfl)
            simp only [e17] at hK ⊢
            have e12 : s 12 = .bool true := hS.val_at 12 rfl (by decide) (hN.out 12 rfl)
            simp only [e12] at hK ⊢
            go_simp
            go_at_call 21
            refine (dvd_use E2.out (hS.mem.r (i := 1) rfl) (hS.mem.r (i := 2) rfl)).mono ?_
            rintro e9 w10 ⟨rfl, q⟩
            exact hK.out _ _ (hS.val rfl rfl q rfl)
          · intro L s w9 hN hU hi hS K hK
            dsimp only at hK ⊢
            simp only [Act.put, List.setIfInBounds_toArray, List.set_cons_zero, List.set_cons_succ] at hK
            have e12 : s 12 = .bool true := hS.val_at 12 rfl (by decide) (hN.out 12 rfl)
            simp only [e12] at hK ⊢
            have e18 : s 18 = .bool true := hS.val_at 18 rfl (by decide) (hN.out 18 rfl)
            simp only [e18] at hK ⊢
            go_simp
            exact hK.out _ _ (hS.val rfl rfl (Below.refl _ _) rfl)
          · intro L s w9 hN hU hi hS K hK
            dsimp only at hK ⊢
            simp only [Act.put, List.setIfInBounds_toArray, List.set_cons_zero, List.set_cons_succ] at hK
            have e19 : s 19 = .bool true := hS.val_at 19 rfl (by decide) (hN.out 19 rfl)
            simp only [e19] at hK ⊢
            go_simp
            exact hK.out _ _ (hS.val rfl rfl (Below.refl _ _) rfl)
          · intro L s w9 hN hU hi hS K hK
            dsimp only at hK ⊢
            simp only [Act.put, List.setIfInBounds_toArray, List.set_cons_zero, List.set_cons_succ] at hK
            have e20 : s 20 = .bool true := hS.val_at 20 rfl (by decide) (hN.out 20 rfl)
            simp only [e20] at hK ⊢
            go_simp
            exact hK.out _ _ (hS.val rfl rfl (Below.refl _ _) rfl)
          · intro L s w9 hN hU hi hS K hK
            dsimp only at hK ⊢
            simp only [Act.put, List.setIfInBounds_toArray, List.set_cons_zero, List.set_cons_succ] at hK
            have e20 : s 20 = .bool true := hS.val_at 20 rfl (by decide) (hN.out 20 rfl)
            simp only [e20] at hK ⊢
            obtain ⟨u1, u2, _, _⟩ := (hS.mem.k (i := 1) rfl).both
            go_simp
            exact hK.out _ _ (hS.val rfl rfl (Below.refl _ _) rfl)
          · intro L s w9 hN hU hi hS K hK
            dsimp only at hK ⊢
            simp only [Act.put, List.setIfInBounds_toArray, List.set_cons_zero, List.set_cons_succ] at hK
            have e22 : s 22 = iv l D zs.length f := hS.val_at 22 rfl (by decide) (hN.out 22 rfl)
            simp only [e22] at hK ⊢
            have e20 : s 20 = .bool true := hS.val_at 20 rfl (by decide) (hN.out 20 rfl)
            simp only [e20] at hK ⊢
            go_simp
            go_at_call 14
            refine (theirs_any _ _ _ _ _).mono ?_
            rintro e9 w10 ⟨rfl, q⟩
            exact hK.out _ _ (hS.val rfl rfl q rfl)
          · intro L s w9 hN hU hi hS K hK
            dsimp only at hK ⊢
            simp only [Act.put, List.setIfInBounds_toArray, List.set_cons_zero, List.set_cons_succ] at hK
            have e20 : s 20 = .bool true := hS.val_at 20 rfl (by decide) (hN.out 20 rfl)
            simp only [e20] at hK ⊢
            obtain ⟨u1, u2, _, _⟩ := (hS.mem.k (i := 0) rfl).both
            go_simp
            exact hK.out _ _ (hS.val rfl rfl (Below.refl _ _) rfl)
          · intro L s w9 hN hU hi hS K hK
            dsimp only at hK ⊢
            simp only [Act.put, List.setIfInBounds_toArray, List.set_cons_zero, List.set_cons_succ] at hK
            have e21 : s 21 = Value.func (.func 21) #[] #[] := hS.val_at 21 rfl (by decide) (hN.out 21 rfl)
            simp only [e21] at hK ⊢
            have e23 : s 23 = iv l D zs.length f := hS.val_at 23 rfl (by decide) (hN.out 23 rfl)
            simp only [e23] at hK ⊢
            have e24 : s 24 = iv false A1 gs.length c1 := hS.val_at 24 rfl (by decide) (hN.out 24 rfl)
            simp only [e24] at hK ⊢
            have e20 : s 20 = .bool true := hS.val_at 20 rfl (by decide) (hN.out 20 rfl)
            simp only [e20] at hK ⊢
            go_simp
            go_at_call 21
            refine (dvd_use E3.out (hS.mem.r (i := 1) rfl) (hS.mem.r (i := 0) rfl)).mono ?_
            rintro e9 w10 ⟨rfl, q⟩
            exact hK.out _ _ (hS.val rfl rfl q rfl)
          · intro L s w9 hN hU hi hS K hK
            dsimp only at hK ⊢
            simp only [Act.put, List.setIfInBounds_toArray, List.set_cons_zero, List.set_cons_succ] at hK
            have e25 : s 25 = .bool true := hS.val_at 25 rfl (by decide) (hN.out 25 rfl)
            simp only [e25] at hK ⊢
            have e20 : s 20 = .bool true := hS.val_at 20 rfl (by decide) (hN.out 20 rfl)
            simp only [e20] at hK ⊢
            go_simp
            exact hK.out _ _ (hS.val rfl rfl (Below.refl _ _) rfl)
          · intro L s w9 hN hU hi hS K hK
            dsimp only at hK ⊢
            simp only [Act.put, List.setIfInBounds_toArray, List.set_cons_zero, List.set_cons_succ] at hK
            have e20 : s 20 = .bool true := hS.val_at 20 rfl (by decide) (hN.out 20 rfl)
            simp only [e20] at hK ⊢
            have e26 : s 26 = .bool false := hS.val_at 26 rfl (by decide) (hN.out 26 rfl)
            simp only [e26] at hK ⊢
            go_simp
            exact hK.out _ _ (hS.val rfl rfl (Below.refl _ _) rfl)
        intro L s w9 hall hS
        have e27 : s 27 = .bool false := hS.val_at 27 rfl (by decide) (hall 27 (by decide))
        rw [e27]
        go_wp2
        go_ret
        exact ⟨rfl, hS.mem.bel⟩
end Go.Proofs.Ytmhjjjffgpdolaa

/-
  The walk of the law SignedBack.
-/
import Derived.Test.YtmhjjjffgpdolaaLsH
set_option linter.unusedSimpArgs false
set_option linter.unusedVariables false
namespace Go.Proofs.Ytmhjjjffgpdolaa
open Go.RowKit Num

set_option maxRecDepth 100000 in
set_option maxHeartbeats 4000000 in
theorem signedBack_use (w : World) (n : Bool) (A : Option Addr) (c : Nat) (xs : List Nat) (ha : Rd w A c xs) (m : Bool) (B : Option Addr) (d : Nat) (ys : List Nat) (hb : Rd w B d ys) (s : ByteArray) (hs : s.size ≤ maxLen) :
    Calls Try.prog 10 #[iv n A xs.length c, iv m B ys.length d, .string s] w fun e w' => e = .returned (.bool true) ∧ Below w.heap.size w w' := by
  unfold maxLen at hs
  have ox := ha.ok
  have oy := hb.ok
  have M : Mem w ((w.alloc (.cells #[.bool n, .slice A xs.length c] 24)).alloc (.cells #[.bool m, .slice B ys.length d] 24)) [(w.heap.size + 1, 24, #[.bool m, .slice B ys.length d]), (w.heap.size, 24, #[.bool n, .slice A xs.length c])] [(B, d, ys), (A, c, xs)] :=
    (((((Mem.start w).addR ha).addR hb).new 24 #[.bool n, .slice A xs.length c]).newAt (by simp) 24 #[.bool m, .slice B ys.length d])
  clear ha hb
  by_cases hf : xs.length ≤ 30 ∧ ys.length ≤ 30
  case neg =>
    have HF : Hid (decide (xs.length ≤ 30 ∧ ys.length ≤ 30) = false) := decide_eq_false hf
    clear hf ox oy
    go_enter Try.func10, Try.ntmps10
    go_wp2_with fail
    refine (salive_any _).mono ?_
    rintro e w1 ⟨rfl, q⟩
    replace M := M.below q
    clear q
    obtain ⟨v1, v2, _, _⟩ := (M.k (i := 1) rfl).both
    obtain ⟨v3, v4, _, _⟩ := (M.k (i := 0) rfl).both
    go_wp2_with fail
    refine (few2 rfl (M.r (i := 1) rfl) (M.r (i := 0) rfl)).mono ?_
    rw [HF.out]
    rintro e w2 ⟨rfl, q⟩
    replace M := M.below q
    clear q v1 v2 v3 v4
    go_wp2
    go_ret
    exact ⟨rfl, M.bel⟩
  have HF : Hid (decide (xs.length ≤ 30 ∧ ys.length ≤ 30) = true) := decide_eq_true hf
  obtain ⟨hf1, hf2⟩ := hf
  by_cases hl : s.size ≤ 300
  case neg =>
    clear ox oy
    go_enter Try.func10, Try.ntmps10
    go_wp2_with fail
    refine (salive_any _).mono ?_
    rintro e w1 ⟨rfl, q⟩
    replace M := M.below q
    clear q
    obtain ⟨v1, v2, _, _⟩ := (M.k (i := 1) rfl).both
    obtain ⟨v3, v4, _, _⟩ := (M.k (i := 0) rfl).both
    go_wp2_with fail
    refine (few2 rfl (M.r (i := 1) rfl) (M.r (i := 0) rfl)).mono ?_
    rw [HF.out]
    rintro e w2 ⟨rfl, q⟩
    replace M := M.below q
    clear q v1 v2 v3 v4
    go_wp2
    go_ret
    exact ⟨rfl, M.bel⟩
  have HX : Hid (right2R n xs m ys = false ∨ (sright n xs = true ∧ sright m ys = true)) := by
    unfold Hid right2R
    cases sright n xs <;> cases sright m ys <;> simp
  have hsz : s.size ≤ 1000000 := by omega
  generalize hS : sparseR s.data.toList = r
  obtain ⟨pn, pd, pe⟩ := r
  have HP := Lib.hid hS
  have HQ : Hid (pe = 0 → stextR pn pd = (s.data.toList, 0) ∧ sright pn pd = true) := fun e => sparse_text (by rw [hS, e])
  clear hS
  go_enter Try.func10, Try.ntmps10
  go_wp2_with fail
  refine (salive_any _).mono ?_
  rintro e w1 ⟨rfl, q⟩
  replace M := M.below q
  clear q
  obtain ⟨v1, v2, _, _⟩ := (M.k (i := 1) rfl).both
  obtain ⟨v3, v4, _, _⟩ := (M.k (i := 0) rfl).both
  go_wp2_with fail
  refine (few2 rfl (M.r (i := 1) rfl) (M.r (i := 0) rfl)).mono ?_
  rw [HF.out]
  rintro e w2 ⟨rfl, q⟩
  replace M := M.below q
  clear q v1 v2 v3 v4
  go_wp2_with fail
  refine (sparse_eq' HP.out hsz).mono ?_
  rintro e w3 ⟨⟨A3, c3, rfl, h3⟩, q⟩
  replace M := ((M.below q).addR h3).new 27 #[.bool pn, .slice A3 pd.length c3]
  clear q h3
  go_upto_if 42 with fail
  generalize hw3 : w3.heap.size = g3 at *
  generalize w3.alloc (.cells #[.bool pn, .slice A3 pd.length c3] 27) = W at *
  go_cut [7] (fun s7 wx => Mem w wx [(w.heap.size + 1, 24, #[.bool m, .slice B ys.length d]), (w.heap.size, 24, #[.bool n, .slice A xs.length c])] [(B, d, ys), (A, c, xs)])
  case first =>
    obtain ⟨v1, v2, _, _⟩ := (M.k (i := 0) rfl).both
    by_cases hpe : pe = 0
    · subst hpe
      obtain ⟨hT, hR⟩ := HQ.out rfl
      have HT := Lib.hid hT
      have HR := Lib.hid hR
      clear hT hR
      go_wp2_with fail
      refine (stext_back (M.r (i := 0) rfl) HT.out).mono ?_
      rintro e w4 ⟨rfl, q⟩
      replace M := M.below q
      clear q v1 v2
      obtain ⟨v1, v2, _, _⟩ := (M.k (i := 0) rfl).both
      go_wp2_with fail
      refine (sright_sok (M.r (i := 0) rfl) HR.out).mono ?_
      rintro e w5 ⟨rfl, q⟩
      replace M := M.below q
      clear q v1 v2
      go_wp2_with fail
      go_meet
      exact ⟨M.bel, fun k hk => M.ks k (List.mem_cons_of_mem _ hk), fun r hr => M.rs r (List.mem_cons_of_mem _ hr)⟩
    · go_wp2_with fail
      go_meet
      exact ⟨M.bel, fun k hk => M.ks k (List.mem_cons_of_mem _ hk), fun r hr => M.rs r (List.mem_cons_of_mem _ hr)⟩
  case rest =>
    clear M HP HQ
    have M := hcut
    clear hcut
    obtain ⟨v1, v2, _, _⟩ := (M.k (i := 1) rfl).both
    obtain ⟨v3, v4, _, _⟩ := (M.k (i := 0) rfl).both
    go_wp2_with fail
    refine (right2_any rfl (M.r (i := 1) rfl) (M.r (i := 0) rfl)).mono ?_
    rintro e w4 ⟨rfl, q⟩
    replace M := M.below q
    clear q v1 v2 v3 v4
    rcases HX.out with hr | ⟨hr1, hr2⟩
    · rw [hr]
      go_wp2
      go_ret
      exact ⟨rfl, M.bel⟩
    rw [show right2R n xs m ys = true by unfold right2R; rw [hr1, hr2]; rfl]
    obtain ⟨tx, hT, hL, hP⟩ := backT ox hr1 hf1
    have HT := Lib.hid hT
    have HP := Lib.hid hP
    clear hT hP
    obtain ⟨v1, v2, _, _⟩ := (M.k (i := 1) rfl).both
    go_wp2_with fail
    refine (theirs_any _ _ _ _ _).mono ?_
    rintro e w5 ⟨rfl, q⟩
    replace M := M.below q
    clear q v1 v2
    go_wp2_with fail
    refine (stext_use (M.r (i := 1) rfl) HT.out).mono ?_
    rintro e w6 ⟨rfl, q⟩
    replace M := M.below q
    clear q
    go_wp2_with fail
    refine (sparse_of' HP.out hL).mono ?_
    rintro e w7 ⟨⟨A5, c5, rfl, h5⟩, q⟩
    replace M := ((M.below q).addR h5).new 27 #[.bool n, .slice A5 xs.length c5]
    clear q h5
    go_upto_region 14 with fail
    generalize hw7 : w7.heap.size = g13 at *
    generalize w7.alloc (.cells #[.bool n, .slice A5 xs.length c5] 27) = W at *
    go_cut [88] (fun s88 wx => s88 = .bool false ∧ Mem w wx [(g13, 27, #[.bool n, .slice A5 xs.length c5]), (w.heap.size + 1, 24, #[.bool m, .slice B ys.length d]), (w.heap.size, 24, #[.bool n, .slice A xs.length c])] [(A5, c5, xs), (B, d, ys), (A, c, xs)])
    case first =>
      have l1 : xs.length ≤ 1000000 := by omega
      refine region_st (n := 13) (frame := ?frame1) (fun j => [.val (.fix (.int .i64 0)), .val (.fix (.bool false)), .val (.fix (.bool false)), .val (.fix (.int .i64 0)), .val (.fix (.bool false)), .val (.fix (.bool false)), .val (.fix (.bool false)), .val (.fix (iv n A5 xs.length c5)), .val (.fix (iv n A5 xs.length c5)), .val (.fix (iv n A xs.length c)), .val (.fix (.bool true)), .val (.fix (.bool false)), .val (.fix (.bool false))].getD j .none) [] (by kernel_rfl) (by kernel_rfl) (by kernel_rfl) rfl M (fun _ h => by cases h) (fun _ h => by cases h) ?_ ?_ ?_
      case refine_1 =>
        intro s
        simp only [fr, Act.put, List.setIfInBounds_toArray, List.set_cons_zero, List.set_cons_succ, Nat.reduceAdd]
        rfl
      case refine_2 =>
        refine Steps.cons 0 (j := 1) rfl ?_ (Steps.cons 1 (j := 2) rfl ?_ (Steps.cons 2 (j := 3) rfl ?_ (Steps.cons 3 (j := 4) rfl ?_ (Steps.cons 4 (j := 5) rfl ?_ (Steps.cons 5 (j := 6) rfl ?_ (Steps.cons 6 (j := 7) rfl ?_ (Steps.cons 7 (j := 8) rfl ?_ (Steps.cons 8 (j := 9) rfl ?_ (Steps.cons 9 (j := 10) rfl ?_ (Steps.cons 10 (j := 11) rfl ?_ (Steps.cons 11 (j := 12) rfl ?_ (Steps.cons 12 (j := 13) rfl ?_ Steps.nil))))))))))))
        · intro L s w9 hN hU hi hS K hK
          dsimp only at hK ⊢
          simp only [Act.put, List.setIfInBounds_toArray, List.set_cons_zero, List.set_cons_succ] at hK
          go_simp
          exact hK.out _ _ (hS.val rfl (noStore_of rfl) (Below.refl _ _) rfl)
        · intro L s w9 hN hU hi hS K hK
          dsimp only at hK ⊢
          simp only [Act.put, List.setIfInBounds_toArray, List.set_cons_zero, List.set_cons_succ] at hK
          have e0 : s 0 = .int .i64 0 := hS.val_at 0 rfl (by decide) (hN.out 0 rfl)
          simp only [e0] at hK ⊢
          go_simp
          exact hK.out _ _ (hS.val rfl (noStore_of rfl) (Below.refl _ _) rfl)
        · intro L s w9 hN hU hi hS K hK
          dsimp only at hK ⊢
          simp only [Act.put, List.setIfInBounds_toArray, List.set_cons_zero, List.set_cons_succ] at hK
          have e1 : s 1 = .bool false := hS.val_at 1 rfl (by decide) (hN.out 1 rfl)
          simp only [e1] at hK ⊢
          go_simp
          exact hK.out _ _ (hS.val rfl (noStore_of rfl) (Below.refl _ _) rfl)
        · intro L s w9 hN hU hi hS K hK
          dsimp only at hK ⊢
          simp only [Act.put, List.setIfInBounds_toArray, List.set_cons_zero, List.set_cons_succ] at hK
          have e2 : s 2 = .bool false := hS.val_at 2 rfl (by decide) (hN.out 2 rfl)
          simp only [e2] at hK ⊢
          go_simp
          exact hK.out _ _ (hS.val rfl (noStore_of rfl) (Below.refl _ _) rfl)
        · intro L s w9 hN hU hi hS K hK
          dsimp only at hK ⊢
          simp only [Act.put, List.setIfInBounds_toArray, List.set_cons_zero, List.set_cons_succ] at hK
          have e2 : s 2 = .bool false := hS.val_at 2 rfl (by decide) (hN.out 2 rfl)
          simp only [e2] at hK ⊢
          have e3 : s 3 = .int .i64 0 := hS.val_at 3 rfl (by decide) (hN.out 3 rfl)
          simp only [e3] at hK ⊢
          go_simp
          exact hK.out _ _ (hS.val rfl (noStore_of rfl) (Below.refl _ _) rfl)
        · intro L s w9 hN hU hi hS K hK
          dsimp only at hK ⊢
          simp only [Act.put, List.setIfInBounds_toArray, List.set_cons_zero, List.set_cons_succ] at hK
          have e2 : s 2 = .bool false := hS.val_at 2 rfl (by decide) (hN.out 2 rfl)
          simp only [e2] at hK ⊢
          have e4 : s 4 = .bool false := hS.val_at 4 rfl (by decide) (hN.out 4 rfl)
          simp only [e4] at hK ⊢
          go_simp
          exact hK.out _ _ (hS.val rfl (noStore_of rfl) (Below.refl _ _) rfl)
        · intro L s w9 hN hU hi hS K hK
          dsimp only at hK ⊢
          simp only [Act.put, List.setIfInBounds_toArray, List.set_cons_zero, List.set_cons_succ] at hK
          have e5 : s 5 = .bool false := hS.val_at 5 rfl (by decide) (hN.out 5 rfl)
          simp only [e5] at hK ⊢
          go_simp
          exact hK.out _ _ (hS.val rfl (noStore_of rfl) (Below.refl _ _) rfl)
        · intro L s w9 hN hU hi hS K hK
          dsimp only at hK ⊢
          simp only [Act.put, List.setIfInBounds_toArray, List.set_cons_zero, List.set_cons_succ] at hK
          have e6 : s 6 = .bool false := hS.val_at 6 rfl (by decide) (hN.out 6 rfl)
          simp only [e6] at hK ⊢
          obtain ⟨u1, u2, _, _⟩ := (hS.mem.k (i := 0) rfl).both
          go_simp
          exact hK.out _ _ (hS.val rfl (noStore_of rfl) (Below.refl _ _) rfl)
        · intro L s w9 hN hU hi hS K hK
          dsimp only at hK ⊢
          simp only [Act.put, List.setIfInBounds_toArray, List.set_cons_zero, List.set_cons_succ] at hK
          have e7 : s 7 = iv n A5 xs.length c5 := hS.val_at 7 rfl (by decide) (hN.out 7 rfl)
          simp only [e7] at hK ⊢
          have e6 : s 6 = .bool false := hS.val_at 6 rfl (by decide) (hN.out 6 rfl)
          simp only [e6] at hK ⊢
          go_simp
          go_at_call 19
          refine (ours_any _ _ _ _ _).mono ?_
          rintro e9 w10 ⟨rfl, q⟩
          exact hK.out _ _ (hS.val rfl (noStore_of rfl) q rfl)
        · intro L s w9 hN hU hi hS K hK
          dsimp only at hK ⊢
          simp only [Act.put, List.setIfInBounds_toArray, List.set_cons_zero, List.set_cons_succ] at hK
          have e6 : s 6 = .bool false := hS.val_at 6 rfl (by decide) (hN.out 6 rfl)
          simp only [e6] at hK ⊢
          obtain ⟨u1, u2, _, _⟩ := (hS.mem.k (i := 2) rfl).both
          go_simp
          exact hK.out _ _ (hS.val rfl (noStore_of rfl) (Below.refl _ _) rfl)
        · intro L s w9 hN hU hi hS K hK
          dsimp only at hK ⊢
          simp only [Act.put, List.setIfInBounds_toArray, List.set_cons_zero, List.set_cons_succ] at hK
          have e8 : s 8 = iv n A5 xs.length c5 := hS.val_at 8 rfl (by decide) (hN.out 8 rfl)
          simp only [e8] at hK ⊢
          have e9 : s 9 = iv n A xs.length c := hS.val_at 9 rfl (by decide) (hN.out 9 rfl)
          simp only [e9] at hK ⊢
          have e6 : s 6 = .bool false := hS.val_at 6 rfl (by decide) (hN.out 6 rfl)
          simp only [e6] at hK ⊢
          go_simp
          go_at_call 18
          refine (rsame_self (hS.mem.r (i := 0) rfl) (hS.mem.r (i := 2) rfl) l1).mono ?_
          rintro e9 w10 ⟨rfl, q⟩
          exact hK.out _ _ (hS.val rfl (noStore_of rfl) q rfl)
        · intro L s w9 hN hU hi hS K hK
          dsimp only at hK ⊢
          simp only [Act.put, List.setIfInBounds_toArray, List.set_cons_zero, List.set_cons_succ] at hK
          have e10 : s 10 = .bool true := hS.val_at 10 rfl (by decide) (hN.out 10 rfl)
          simp only [e10] at hK ⊢
          have e6 : s 6 = .bool false := hS.val_at 6 rfl (by decide) (hN.out 6 rfl)
          simp only [e6] at hK ⊢
          go_simp
          exact hK.out _ _ (hS.val rfl (noStore_of rfl) (Below.refl _ _) rfl)
        · intro L s w9 hN hU hi hS K hK
          dsimp only at hK ⊢
          simp only [Act.put, List.setIfInBounds_toArray, List.set_cons_zero, List.set_cons_succ] at hK
          have e6 : s 6 = .bool false := hS.val_at 6 rfl (by decide) (hN.out 6 rfl)
          simp only [e6] at hK ⊢
          have e11 : s 11 = .bool false := hS.val_at 11 rfl (by decide) (hN.out 11 rfl)
          simp only [e11] at hK ⊢
          go_simp
          exact hK.out _ _ (hS.val rfl (noStore_of rfl) (Below.refl _ _) rfl)
      intro L s w9 hall hS
      have e12 : s 12 = .bool false := hS.val_at 12 rfl (by decide) (hall 12 (by decide))
      go_wp2_with fail
      go_meet
      exact ⟨e12, hS.mem⟩
    case rest =>
      obtain ⟨rfl, M'⟩ := hcut
      clear M
      have M := M'
      clear M'
      by_cases hy : ys = []
      · subst hy
        obtain ⟨v1, v2, _, _⟩ := (M.k (i := 1) rfl).both
        go_wp2
        go_ret
        exact ⟨rfl, M.bel⟩
      have hy0 : 0 < ys.length := List.length_pos_iff.2 hy
      obtain ⟨qn, qd, pn2, pd2, rn, rd, hD, hM, hA, hrl, hsg, hC⟩ := backD ox oy hr1 hr2 hf1 hf2 hy
      have HD := Lib.hid hD
      have HM := Lib.hid hM
      have HA := Lib.hid hA
      have HC := Lib.hid hC
      have HS : Hid (rd = [] ∨ (rd ≠ [] ∧ rn = m)) := by
        by_cases h : rd = []
        · exact .inl h
        · exact .inr ⟨h, hsg h⟩
      clear hD hM hA hC hsg hy ox oy
      go_upto_region 16 with fail
      go_cut [92] (fun s92 wx => s92 = .bool false ∧ Mem w wx [(g13, 27, #[.bool n, .slice A5 xs.length c5]), (w.heap.size + 1, 24, #[.bool m, .slice B ys.length d]), (w.heap.size, 24, #[.bool n, .slice A xs.length c])] [(A5, c5, xs), (B, d, ys), (A, c, xs)])
      case first =>
        obtain ⟨v1, v2, _, _⟩ := (M.k (i := 1) rfl).both
        go_wp2_with fail
        go_meet
        exact ⟨by first | rfl | (simp; exact List.length_pos_iff.1 hy0) | (simp; omega), M⟩
      case rest =>
      clear M
      obtain ⟨rfl, M⟩ := hcut
      go_upto_region 18 with fail
      go_cut [15, 16, 17] (fun s15 s16 s17 wx => ∃ (g15 g16 : Nat) (A15 A16 : Option Addr) (c15 c16 : Nat), s15 = .pointer (some ⟨g15, 0, none⟩) ∧ s16 = .pointer (some ⟨g16, 0, none⟩) ∧ s17 = .int .i64 0 ∧ Mem w wx [(g16, 27, #[.bool rn, .slice A16 rd.length c16]), (g15, 27, #[.bool qn, .slice A15 qd.length c15]), (g13, 27, #[.bool n, .slice A5 xs.length c5]), (w.heap.size + 1, 24, #[.bool m, .slice B ys.length d]), (w.heap.size, 24, #[.bool n, .slice A xs.length c])] [(A16, c16, rd), (A15, c15, qd), (A5, c5, xs), (B, d, ys), (A, c, xs)])
      case first =>
        refine region_st (n := 14) (frame := ?frame2) (fun j => [.val (.fix (iv n A xs.length c)), .val (.fix (iv n A xs.length c)), .val (.fix (iv m B ys.length d)), .val (.fix (iv m B ys.length d)), .val (.rii (qn, qd, rn, rd, 0)), .val (.rii (qn, qd, rn, rd, 0)), .val (.num qn qd), .val (.num rn rd), .val (.fix (.int .i64 0)), .cell 11 27 #[.bool false, .slice none 0 0] (.num (qn) (qd)), .cell 12 27 #[.bool false, .slice none 0 0] (.num (rn) (rd)), .none, .none, .val (.fix (.int .i64 0))].getD j .none) [] (by kernel_rfl) (by kernel_rfl) (by kernel_rfl) rfl M (fun _ h => by cases h) (fun _ h => by cases h) ?_ ?_ ?_
        case refine_1 =>
          intro s
          simp only [fr, Act.put, List.setIfInBounds_toArray, List.set_cons_zero, List.set_cons_succ, Nat.reduceAdd]
          rfl
        case refine_2 =>
          refine Steps.cons 0 (j := 1) rfl ?_ (Steps.cons 1 (j := 2) rfl ?_ (Steps.cons 2 (j := 3) rfl ?_ (Steps.cons 3 (j := 4) rfl ?_ (Steps.cons 4 (j := 5) rfl ?_ (Steps.cons 5 (j := 6) rfl ?_ (Steps.cons 6 (j := 7) rfl ?_ (Steps.cons 7 (j := 8) rfl ?_ (Steps.cons 8 (j := 9) rfl ?_ (Steps.cons 9 (j := 10) rfl ?_ (Steps.cons 10 (j := 11) rfl ?_ (Steps.cons 11 (j := 12) rfl ?_ (Steps.cons 12 (j := 13) rfl ?_ (Steps.cons 13 (j := 14) rfl ?_ Steps.nil)))))))))))))
          · intro L s w9 hN hU hi hS K hK
            dsimp only at hK ⊢
            simp only [Act.put, List.setIfInBounds_toArray, List.set_cons_zero, List.set_cons_succ] at hK
            obtain ⟨u1, u2, _, _⟩ := (hS.mem.k (i := 2) rfl).both
            go_simp
            exact hK.out _ _ (hS.val rfl rfl (Below.refl _ _) rfl)
          · intro L s w9 hN hU hi hS K hK
            dsimp only at hK ⊢
            simp only [Act.put, List.setIfInBounds_toArray, List.set_cons_zero, List.set_cons_succ] at hK
            have e0 : s 0 = iv n A xs.length c := hS.val_at 0 rfl (by decide) (hN.out 0 rfl)
            simp only [e0] at hK ⊢
            go_simp
            go_at_call 14
            refine (theirs_any _ _ _ _ _).mono ?_
            rintro e9 w10 ⟨rfl, q⟩
            exact hK.out _ _ (hS.val rfl rfl q rfl)
          · intro L s w9 hN hU hi hS K hK
            dsimp only at hK ⊢
            simp only [Act.put, List.setIfInBounds_toArray, List.set_cons_zero, List.set_cons_succ] at hK
            obtain ⟨u1, u2, _, _⟩ := (hS.mem.k (i := 1) rfl).both
            go_simp
            exact hK.out _ _ (hS.val rfl rfl (Below.refl _ _) rfl)
          · intro L s w9 hN hU hi hS K hK
            dsimp only at hK ⊢
            simp only [Act.put, List.setIfInBounds_toArray, List.set_cons_zero, List.set_cons_succ] at hK
            have e2 : s 2 = iv m B ys.length d := hS.val_at 2 rfl (by decide) (hN.out 2 rfl)
            simp only [e2] at hK ⊢
            go_simp
            go_at_call 14
            refine (theirs_any _ _ _ _ _).mono ?_
            rintro e9 w10 ⟨rfl, q⟩
            exact hK.out _ _ (hS.val rfl rfl q rfl)
          · intro L s w9 hN hU hi hS K hK
            dsimp only at hK ⊢
            simp only [Act.put, List.setIfInBounds_toArray, List.set_cons_zero, List.set_cons_succ] at hK
            have e1 : s 1 = iv n A xs.length c := hS.val_at 1 rfl (by decide) (hN.out 1 rfl)
            simp only [e1] at hK ⊢
            have e3 : s 3 = iv m B ys.length d := hS.val_at 3 rfl (by decide) (hN.out 3 rfl)
            simp only [e3] at hK ⊢
            go_simp
            go_at_call 13
            refine (sdiv_eq' HD.out (hS.mem.r (i := 2) rfl) (hS.mem.r (i := 1) rfl)).mono ?_
            rintro e9 w10 ⟨⟨A2, c2, B2, d2, rfl, h2, h3⟩, q⟩
            exact hK.out _ _ (hS.val rfl rfl q ⟨A2, c2, B2, d2, rfl, h2, h3⟩)
          · intro L s w9 hN hU hi hS K hK
            dsimp only at hK ⊢
            simp only [Act.put, List.setIfInBounds_toArray, List.set_cons_zero, List.set_cons_succ] at hK
            obtain ⟨A4, c4, B4, d4, e4, h4, k4⟩ := hS.val_at 4 rfl (by decide) (hN.out 4 rfl)
            simp only [e4] at hK ⊢
            go_simp
            exact hK.out _ _ (hS.val rfl rfl (Below.refl _ _) ⟨A4, c4, B4, d4, rfl, h4, k4⟩)
          · intro L s w9 hN hU hi hS K hK
            dsimp only at hK ⊢
            simp only [Act.put, List.setIfInBounds_toArray, List.set_cons_zero, List.set_cons_succ] at hK
            obtain ⟨A5, c5, B5, d5, e5, h5, k5⟩ := hS.val_at 5 rfl (by decide) (hN.out 5 rfl)
            simp only [e5] at hK ⊢
            go_simp
            exact hK.out _ _ (hS.val rfl rfl (Below.refl _ _) ⟨A5, c5, rfl, h5⟩)
          · intro L s w9 hN hU hi hS K hK
            dsimp only at hK ⊢
            simp only [Act.put, List.setIfInBounds_toArray, List.set_cons_zero, List.set_cons_succ] at hK
            obtain ⟨A5, c5, B5, d5, e5, h5, k5⟩ := hS.val_at 5 rfl (by decide) (hN.out 5 rfl)
            simp only [e5] at hK ⊢
            go_simp
            exact hK.out _ _ (hS.val rfl rfl (Below.refl _ _) ⟨B5, d5, rfl, k5⟩)
          · intro L s w9 hN hU hi hS K hK
            dsimp only at hK ⊢
            simp only [Act.put, List.setIfInBounds_toArray, List.set_cons_zero, List.set_cons_succ] at hK
            obtain ⟨A5, c5, B5, d5, e5, h5, k5⟩ := hS.val_at 5 rfl (by decide) (hN.out 5 rfl)
            simp only [e5] at hK ⊢
            go_simp
            exact hK.out _ _ (hS.val rfl rfl (Below.refl _ _) rfl)
          · intro L s w9 hN hU hi hS K hK
            dsimp only at hK ⊢
            simp only [Act.put, List.setIfInBounds_toArray, List.set_cons_zero, List.set_cons_succ] at hK
            go_simp
            exact hK.out _ _ (hS.new rfl rfl hi.out (fun _ => hU.out 11 _ rfl rfl) rfl)
          · intro L s w9 hN hU hi hS K hK
            dsimp only at hK ⊢
            simp only [Act.put, List.setIfInBounds_toArray, List.set_cons_zero, List.set_cons_succ] at hK
            go_simp
            exact hK.out _ _ (hS.new rfl rfl hi.out (fun _ => hU.out 12 _ rfl rfl) rfl)
          · intro L s w9 hN hU hi hS K hK
            dsimp only at hK ⊢
            simp only [Act.put, List.setIfInBounds_toArray, List.set_cons_zero, List.set_cons_succ] at hK
            obtain ⟨A6, c6, e6, h6⟩ := hS.val_at 6 rfl (by decide) (hN.out 6 rfl)
            simp only [e6] at hK ⊢
            obtain ⟨g9, cs9, e9, l9, b9, n9, z9, _⟩ := hS.cell_at 9 rfl (by decide) (hN.out 9 rfl)
            obtain rfl := z9 hi.out
            simp only [e9] at hK ⊢
            refine ite_of rfl ?_
            refine wp_store_row _ _ _ rfl g9 _ rfl rfl _ _ b9 info_int rfl (by rw [← Array.all_toList]; rfl) ?_
            simp only [Act.put]
            exact hK.out undef _ (hS.fill (u := undef) (c := .num (qn) (qd)) rfl rfl (by decide) rfl (hN.out 9 rfl) hi.out e9 (setRow_grown _ _ _) (b9.row _) rfl ⟨A6, c6, rfl, h6⟩)
          · intro L s w9 hN hU hi hS K hK
            dsimp only at hK ⊢
            simp only [Act.put, List.setIfInBounds_toArray, List.set_cons_zero, List.set_cons_succ] at hK
            obtain ⟨A7, c7, e7, h7⟩ := hS.val_at 7 rfl (by decide) (hN.out 7 rfl)
            simp only [e7] at hK ⊢
            obtain ⟨g9, cs9, e9, l9, b9, n9, z9, _⟩ := hS.cell_at 10 rfl (by decide) (hN.out 10 rfl)
            obtain rfl := z9 hi.out
            simp only [e9] at hK ⊢
            refine ite_of rfl ?_
            refine wp_store_row _ _ _ rfl g9 _ rfl rfl _ _ b9 info_int rfl (by rw [← Array.all_toList]; rfl) ?_
            simp only [Act.put]
            exact hK.out undef _ (hS.fill (u := undef) (c := .num (rn) (rd)) rfl rfl (by decide) rfl (hN.out 10 rfl) hi.out e9 (setRow_grown _ _ _) (b9.row _) rfl ⟨A7, c7, rfl, h7⟩)
          · intro L s w9 hN hU hi hS K hK
            dsimp only at hK ⊢
            simp only [Act.put, List.setIfInBounds_toArray, List.set_cons_zero, List.set_cons_succ] at hK
            have e8 : s 8 = .int .i64 0 := hS.val_at 8 rfl (by decide) (hN.out 8 rfl)
            simp only [e8] at hK ⊢
            go_simp
            exact hK.out _ _ (hS.val rfl rfl (Below.refl _ _) rfl)
        intro L s w9 hall hS
        obtain ⟨g9, cs9, e9, l9, b9, n9, _, z9⟩ := hS.cell_at 9 rfl (by decide) (hall 9 (by decide))
        obtain ⟨A9, c9, rfl, h9⟩ := z9 (hall 11 (by decide))
        rw [e9]
        obtain ⟨g10, cs10, e10, l10, b10, n10, _, z10⟩ := hS.cell_at 10 rfl (by decide) (hall 10 (by decide))
        obtain ⟨A10, c10, rfl, h10⟩ := z10 (hall 12 (by decide))
        rw [e10]
        have e13 := hS.val_at 13 rfl (by decide) (hall 13 (by decide))
        go_wp2_with fail
        go_meet
        exact ⟨_, _, A9, A10, c9, c10, rfl, rfl, e13, (((hS.mem.addR h9).addK b9).addR h10).addK b10⟩
      case rest =>
        clear M
        obtain ⟨g15, g16, A15, A16, c15, c16, rfl, rfl, rfl, M⟩ := hcut
        go_upto_region 19 with fail
        go_cut [18, 19] (fun s18 s19 wx => ∃ (g18 : Nat) (A18 : Option Addr) (c18 : Nat), s18 = .pointer (some ⟨g18, 0, none⟩) ∧ s19 = .int .i64 0 ∧ Mem w wx [(g18, 27, #[.bool pn2, .slice A18 pd2.length c18]), (g16, 27, #[.bool rn, .slice A16 rd.length c16]), (g15, 27, #[.bool qn, .slice A15 qd.length c15]), (g13, 27, #[.bool n, .slice A5 xs.length c5]), (w.heap.size + 1, 24, #[.bool m, .slice B ys.length d]), (w.heap.size, 24, #[.bool n, .slice A xs.length c])] [(A18, c18, pd2), (A16, c16, rd), (A15, c15, qd), (A5, c5, xs), (B, d, ys), (A, c, xs)])
        case first =>
          refine region_st (n := 10) (frame := ?frame3) (fun j => [.val (.fix (iv qn A15 qd.length c15)), .val (.fix (iv m B ys.length d)), .val (.fix (iv m B ys.length d)), .val (.ri (pn2, pd2, 0)), .val (.ri (pn2, pd2, 0)), .val (.num pn2 pd2), .val (.fix (.int .i64 0)), .cell 8 27 #[.bool false, .slice none 0 0] (.num (pn2) (pd2)), .none, .val (.fix (.int .i64 0))].getD j .none) [] (by kernel_rfl) (by kernel_rfl) (by kernel_rfl) rfl M (fun _ h => by cases h) (fun _ h => by cases h) ?_ ?_ ?_
          case refine_1 =>
            intro s
            simp only [fr, Act.put, List.setIfInBounds_toArray, List.set_cons_zero, List.set_cons_succ, Nat.reduceAdd]
            rfl
          case refine_2 =>
            refine Steps.cons 0 (j := 1) rfl ?_ (Steps.cons 1 (j := 2) rfl ?_ (Steps.cons 2 (j := 3) rfl ?_ (Steps.cons 3 (j := 4) rfl ?_ (Steps.cons 4 (j := 5) rfl ?_ (Steps.cons 5 (j := 6) rfl ?_ (Steps.cons 6 (j := 7) rfl ?_ (Steps.cons 7 (j := 8) rfl ?_ (Steps.cons 8 (j := 9) rfl ?_ (Steps.cons 9 (j := 10) rfl ?_ Steps.nil)))))))))
            · intro L s w9 hN hU hi hS K hK
              dsimp only at hK ⊢
              simp only [Act.put, List.setIfInBounds_toArray, List.set_cons_zero, List.set_cons_succ] at hK
              obtain ⟨u1, u2, _, _⟩ := (hS.mem.k (i := 1) rfl).both
              go_simp
              exact hK.out _ _ (hS.val rfl rfl (Below.refl _ _) rfl)
            · intro L s w9 hN hU hi hS K hK
              dsimp only at hK ⊢
              simp only [Act.put, List.setIfInBounds_toArray, List.set_cons_zero, List.set_cons_succ] at hK
              obtain ⟨u1, u2, _, _⟩ := (hS.mem.k (i := 3) rfl).both
              go_simp
              exact hK.out _ _ (hS.val rfl rfl (Below.refl _ _) rfl)
            · intro L s w9 hN hU hi hS K hK
              dsimp only at hK ⊢
              simp only [Act.put, List.setIfInBounds_toArray, List.set_cons_zero, List.set_cons_succ] at hK
              have e1 : s 1 = iv m B ys.length d := hS.val_at 1 rfl (by decide) (hN.out 1 rfl)
              simp only [e1] at hK ⊢
              go_simp
              go_at_call 14
              refine (theirs_any _ _ _ _ _).mono ?_
              rintro e9 w10 ⟨rfl, q⟩
              exact hK.out _ _ (hS.val rfl rfl q rfl)
            · intro L s w9 hN hU hi hS K hK
              dsimp only at hK ⊢
              simp only [Act.put, List.setIfInBounds_toArray, List.set_cons_zero, List.set_cons_succ] at hK
              have e0 : s 0 = iv qn A15 qd.length c15 := hS.val_at 0 rfl (by decide) (hN.out 0 rfl)
              simp only [e0] at hK ⊢
              have e2 : s 2 = iv m B ys.length d := hS.val_at 2 rfl (by decide) (hN.out 2 rfl)
              simp only [e2] at hK ⊢
              go_simp
              go_at_call 32
              refine (smul_eq' HM.out (hS.mem.r (i := 1) rfl) (hS.mem.r (i := 3) rfl)).mono ?_
              rintro e9 w10 ⟨⟨A2, c2, rfl, h2⟩, q⟩
              exact hK.out _ _ (hS.val rfl rfl q ⟨A2, c2, rfl, h2⟩)
            · intro L s w9 hN hU hi hS K hK
              dsimp only at hK ⊢
              simp only [Act.put, List.setIfInBounds_toArray, List.set_cons_zero, List.set_cons_succ] at hK
              obtain ⟨A3, c3, e3, h3⟩ := hS.val_at 3 rfl (by decide) (hN.out 3 rfl)
              simp only [e3] at hK ⊢
              go_simp
              exact hK.out _ _ (hS.val rfl rfl (Below.refl _ _) ⟨A3, c3, rfl, h3⟩)
            · intro L s w9 hN hU hi hS K hK
              dsimp only at hK ⊢
              simp only [Act.put, List.setIfInBounds_toArray, List.set_cons_zero, List.set_cons_succ] at hK
              obtain ⟨A4, c4, e4, h4⟩ := hS.val_at 4 rfl (by decide) (hN.out 4 rfl)
              simp only [e4] at hK ⊢
              go_simp
              exact hK.out _ _ (hS.val rfl rfl (Below.refl _ _) ⟨A4, c4, rfl, h4⟩)
            · intro L s w9 hN hU hi hS K hK
              dsimp only at hK ⊢
              simp only [Act.put, List.setIfInBounds_toArray, List.set_cons_zero, List.set_cons_succ] at hK
              obtain ⟨A4, c4, e4, h4⟩ := hS.val_at 4 rfl (by decide) (hN.out 4 rfl)
              simp only [e4] at hK ⊢
              go_simp
              exact hK.out _ _ (hS.val rfl rfl (Below.refl _ _) rfl)
            · intro L s w9 hN hU hi hS K hK
              dsimp only at hK ⊢
              simp only [Act.put, List.setIfInBounds_toArray, List.set_cons_zero, List.set_cons_succ] at hK
              go_simp
              exact hK.out _ _ (hS.new rfl rfl hi.out (fun _ => hU.out 8 _ rfl rfl) rfl)
            · intro L s w9 hN hU hi hS K hK
              dsimp only at hK ⊢
              simp only [Act.put, List.setIfInBounds_toArray, List.set_cons_zero, List.set_cons_succ] at hK
              obtain ⟨A5, c5, e5, h5⟩ := hS.val_at 5 rfl (by decide) (hN.out 5 rfl)
              simp only [e5] at hK ⊢
              obtain ⟨g9, cs9, e9, l9, b9, n9, z9, _⟩ := hS.cell_at 7 rfl (by decide) (hN.out 7 rfl)
              obtain rfl := z9 hi.out
              simp only [e9] at hK ⊢
              refine ite_of rfl ?_
              refine wp_store_row _ _ _ rfl g9 _ rfl rfl _ _ b9 info_int rfl (by rw [← Array.all_toList]; rfl) ?_
              simp only [Act.put]
              exact hK.out undef _ (hS.fill (u := undef) (c := .num (pn2) (pd2)) rfl rfl (by decide) rfl (hN.out 7 rfl) hi.out e9 (setRow_grown _ _ _) (b9.row _) rfl ⟨A5, c5, rfl, h5⟩)
            · intro L s w9 hN hU hi hS K hK
              dsimp only at hK ⊢
              simp only [Act.put, List.setIfInBounds_toArray, List.set_cons_zero, List.set_cons_succ] at hK
              have e6 : s 6 = .int .i64 0 := hS.val_at 6 rfl (by decide) (hN.out 6 rfl)
              simp only [e6] at hK ⊢
              go_simp
              exact hK.out _ _ (hS.val rfl rfl (Below.refl _ _) rfl)
          intro L s w9 hall hS
          obtain ⟨g7, cs7, e7, l7, b7, n7, _, z7⟩ := hS.cell_at 7 rfl (by decide) (hall 7 (by decide))
          obtain ⟨A7, c7, rfl, h7⟩ := z7 (hall 8 (by decide))
          rw [e7]
          have e9 := hS.val_at 9 rfl (by decide) (hall 9 (by decide))
          go_wp2_with fail
          go_meet
          exact ⟨_, A7, c7, rfl, e9, (hS.mem.addR h7).addK b7⟩
        case rest =>
          clear M
          obtain ⟨g18, A18, c18, rfl, rfl, M⟩ := hcut
          obtain ⟨v1, v2, _, _⟩ := (M.k (i := 0) rfl).both
          obtain ⟨v3, v4, _, _⟩ := (M.k (i := 1) rfl).both
          go_wp2_with fail
          refine (sadd_eq' HA.out (M.r (i := 0) rfl) (M.r (i := 1) rfl)).mono ?_
          rintro e w9 ⟨⟨A20, c20, rfl, h⟩, q⟩
          replace M := ((M.below q).addR h).new 27 #[.bool n, .slice A20 xs.length c20]
          clear q h v1 v2 v3 v4
          go_upto_region 21 with fail
          generalize hw9 : w9.heap.size = g20 at *
          generalize w9.alloc (.cells #[.bool n, .slice A20 xs.length c20] 27) = W at *
          go_cut [144] (fun s144 wx => s144 = .bool false ∧ Mem w wx [(g20, 27, #[.bool n, .slice A20 xs.length c20]), (g18, 27, #[.bool pn2, .slice A18 pd2.length c18]), (g16, 27, #[.bool rn, .slice A16 rd.length c16]), (g15, 27, #[.bool qn, .slice A15 qd.length c15]), (g13, 27, #[.bool n, .slice A5 xs.length c5]), (w.heap.size + 1, 24, #[.bool m, .slice B ys.length d]), (w.heap.size, 24, #[.bool n, .slice A xs.length c])] [(A20, c20, xs), (A18, c18, pd2), (A16, c16, rd), (A15, c15, qd), (A5, c5, xs), (B, d, ys), (A, c, xs)])
          case first =>
            have l1 : xs.length ≤ 1000000 := by omega
            rcases HS.out with hr | ⟨hr, rfl⟩
            · subst hr
              refine region_st (n := 30) (frame := ?frame4) (fun j => [.val (.fix (.int .i64 0)), .val (.fix (.bool false)), .val (.fix (.bool false)), .val (.fix (.int .i64 0)), .val (.fix (.bool false)), .val (.fix (.bool false)), .val (.fix (.bool false)), .val (.fix (.int .i64 0)), .val (.fix (.bool false)), .val (.fix (.bool false)), .val (.fix (.bool false)), .val (.fix (iv n A20 xs.length c20)), .val (.fix (iv n A20 xs.length c20)), .val (.fix (iv n A xs.length c)), .val (.fix (.bool true)), .val (.fix (.bool false)), .val (.fix (.bool false)), .val (.fix (.bool false)), .val (.fix (.pointer (some ⟨g16, 1, none⟩))), .val (.fix (.slice A16 0 c16)), .val (.fix (.int .i64 0)), .val (.fix (.bool false)), .val (.fix (.bool false)), .none, .none, .none, .none, .none, .val (.fix (.bool false)), .val (.fix (.bool false))].getD j .none) [] (by kernel_rfl) (by kernel_rfl) (by kernel_rfl) rfl M (fun _ h => by cases h) (fun _ h => by cases h) ?_ ?_ ?_
              case refine_1 =>
                intro s
                simp only [fr, Act.put, List.setIfInBounds_toArray, List.set_cons_zero, List.set_cons_succ, Nat.reduceAdd]
                rfl
              case refine_2 =>
                refine Steps.cons 0 (j := 1) rfl ?_ (Steps.cons 1 (j := 2) rfl ?_ (Steps.cons 2 (j := 3) rfl ?_ (Steps.cons 3 (j := 4) rfl ?_ (Steps.cons 4 (j := 5) rfl ?_ (Steps.cons 5 (j := 6) rfl ?_ (Steps.cons 6 (j := 7) rfl ?_ (Steps.cons 7 (j := 8) rfl ?_ (Steps.cons 8 (j := 9) rfl ?_ (Steps.cons 9 (j := 10) rfl ?_ (Steps.cons 10 (j := 11) rfl ?_ (Steps.cons 11 (j := 12) rfl ?_ (Steps.cons 12 (j := 13) rfl ?_ (Steps.cons 13 (j := 14) rfl ?_ (Steps.cons 14 (j := 15) rfl ?_ (Steps.cons 15 (j := 16) rfl ?_ (Steps.cons 16 (j := 17) rfl ?_ (Steps.cons 17 (j := 18) rfl ?_ (Steps.cons 18 (j := 19) rfl ?_ (Steps.cons 19 (j := 20) rfl ?_ (Steps.cons 20 (j := 21) rfl ?_ (Steps.cons 21 (j := 22) rfl ?_ (Steps.cons 22 (j := 23) rfl ?_ (Steps.cons 23 (j := 24) rfl ?_ (Steps.cons 24 (j := 25) rfl ?_ (Steps.cons 25 (j := 26) rfl ?_ (Steps.cons 26 (j := 27) rfl ?_ (Steps.cons 27 (j := 28) rfl ?_ (Steps.cons 28 (j := 29) rfl ?_ (Steps.cons 29 (j := 30) rfl ?_ Steps.nil)))))))))))))))))))))))))))))
                · intro L s w9 hN hU hi hS K hK
                  dsimp only at hK ⊢
                  simp only [Act.put, List.setIfInBounds_toArray, List.set_cons_zero, List.set_cons_succ] at hK
                  go_simp
                  exact hK.out _ _ (hS.val rfl (noStore_of rfl) (Below.refl _ _) rfl)
                · intro L s w9 hN hU hi hS K hK
                  dsimp only at hK ⊢
                  simp only [Act.put, List.setIfInBounds_toArray, List.set_cons_zero, List.set_cons_succ] at hK
                  have e0 : s 0 = .int .i64 0 := hS.val_at 0 rfl (by decide) (hN.out 0 rfl)
                  simp only [e0] at hK ⊢
                  go_simp
                  exact hK.out _ _ (hS.val rfl (noStore_of rfl) (Below.refl _ _) rfl)
                · intro L s w9 hN hU hi hS K hK
                  dsimp only at hK ⊢
                  simp only [Act.put, List.setIfInBounds_toArray, List.set_cons_zero, List.set_cons_succ] at hK
                  have e1 : s 1 = .bool false := hS.val_at 1 rfl (by decide) (hN.out 1 rfl)
                  simp only [e1] at hK ⊢
                  go_simp
                  exact hK.out _ _ (hS.val rfl (noStore_of rfl) (Below.refl _ _) rfl)
                · intro L s w9 hN hU hi hS K hK
                  dsimp only at hK ⊢
                  simp only [Act.put, List.setIfInBounds_toArray, List.set_cons_zero, List.set_cons_succ] at hK
                  have e2 : s 2 = .bool false := hS.val_at 2 rfl (by decide) (hN.out 2 rfl)
                  simp only [e2] at hK ⊢
                  go_simp
                  exact hK.out _ _ (hS.val rfl (noStore_of rfl) (Below.refl _ _) rfl)
                · intro L s w9 hN hU hi hS K hK
                  dsimp only at hK ⊢
                  simp only [Act.put, List.setIfInBounds_toArray, List.set_cons_zero, List.set_cons_succ] at hK
                  have e2 : s 2 = .bool false := hS.val_at 2 rfl (by decide) (hN.out 2 rfl)
                  simp only [e2] at hK ⊢
                  have e3 : s 3 = .int .i64 0 := hS.val_at 3 rfl (by decide) (hN.out 3 rfl)
                  simp only [e3] at hK ⊢
                  go_simp
                  exact hK.out _ _ (hS.val rfl (noStore_of rfl) (Below.refl _ _) rfl)
                · intro L s w9 hN hU hi hS K hK
                  dsimp only at hK ⊢
                  simp only [Act.put, List.setIfInBounds_toArray, List.set_cons_zero, List.set_cons_succ] at hK
                  have e2 : s 2 = .bool false := hS.val_at 2 rfl (by decide) (hN.out 2 rfl)
                  simp only [e2] at hK ⊢
                  have e4 : s 4 = .bool false := hS.val_at 4 rfl (by decide) (hN.out 4 rfl)
                  simp only [e4] at hK ⊢
                  go_simp
                  exact hK.out _ _ (hS.val rfl (noStore_of rfl) (Below.refl _ _) rfl)
                · intro L s w9 hN hU hi hS K hK
                  dsimp only at hK ⊢
                  simp only [Act.put, List.setIfInBounds_toArray, List.set_cons_zero, List.set_cons_succ] at hK
                  have e5 : s 5 = .bool false := hS.val_at 5 rfl (by decide) (hN.out 5 rfl)
                  simp only [e5] at hK ⊢
                  go_simp
                  exact hK.out _ _ (hS.val rfl (noStore_of rfl) (Below.refl _ _) rfl)
                · intro L s w9 hN hU hi hS K hK
                  dsimp only at hK ⊢
                  simp only [Act.put, List.setIfInBounds_toArray, List.set_cons_zero, List.set_cons_succ] at hK
                  have e6 : s 6 = .bool false := hS.val_at 6 rfl (by decide) (hN.out 6 rfl)
                  simp only [e6] at hK ⊢
                  go_simp
                  exact hK.out _ _ (hS.val rfl (noStore_of rfl) (Below.refl _ _) rfl)
                · intro L s w9 hN hU hi hS K hK
                  dsimp only at hK ⊢
                  simp only [Act.put, List.setIfInBounds_toArray, List.set_cons_zero, List.set_cons_succ] at hK
                  have e6 : s 6 = .bool false := hS.val_at 6 rfl (by decide) (hN.out 6 rfl)
                  simp only [e6] at hK ⊢
                  have e7 : s 7 = .int .i64 0 := hS.val_at 7 rfl (by decide) (hN.out 7 rfl)
                  simp only [e7] at hK ⊢
                  go_simp
                  exact hK.out _ _ (hS.val rfl (noStore_of rfl) (Below.refl _ _) rfl)
                · intro L s w9 hN hU hi hS K hK
                  dsimp only at hK ⊢
                  simp only [Act.put, List.setIfInBounds_toArray, List.set_cons_zero, List.set_cons_succ] at hK
                  have e6 : s 6 = .bool false := hS.val_at 6 rfl (by decide) (hN.out 6 rfl)
                  simp only [e6] at hK ⊢
                  have e8 : s 8 = .bool false := hS.val_at 8 rfl (by decide) (hN.out 8 rfl)
                  simp only [e8] at hK ⊢
                  go_simp
                  exact hK.out _ _ (hS.val rfl (noStore_of rfl) (Below.refl _ _) rfl)
                · intro L s w9 hN hU hi hS K hK
                  dsimp only at hK ⊢
                  simp only [Act.put, List.setIfInBounds_toArray, List.set_cons_zero, List.set_cons_succ] at hK
                  have e9 : s 9 = .bool false := hS.val_at 9 rfl (by decide) (hN.out 9 rfl)
                  simp only [e9] at hK ⊢
                  go_simp
                  exact hK.out _ _ (hS.val rfl (noStore_of rfl) (Below.refl _ _) rfl)
                · intro L s w9 hN hU hi hS K hK
                  dsimp only at hK ⊢
                  simp only [Act.put, List.setIfInBounds_toArray, List.set_cons_zero, List.set_cons_succ] at hK
                  have e10 : s 10 = .bool false := hS.val_at 10 rfl (by decide) (hN.out 10 rfl)
                  simp only [e10] at hK ⊢
                  obtain ⟨u1, u2, _, _⟩ := (hS.mem.k (i := 0) rfl).both
                  go_simp
                  exact hK.out _ _ (hS.val rfl (noStore_of rfl) (Below.refl _ _) rfl)
                · intro L s w9 hN hU hi hS K hK
                  dsimp only at hK ⊢
                  simp only [Act.put, List.setIfInBounds_toArray, List.set_cons_zero, List.set_cons_succ] at hK
                  have e11 : s 11 = iv n A20 xs.length c20 := hS.val_at 11 rfl (by decide) (hN.out 11 rfl)
                  simp only [e11] at hK ⊢
                  have e10 : s 10 = .bool false := hS.val_at 10 rfl (by decide) (hN.out 10 rfl)
                  simp only [e10] at hK ⊢
                  go_simp
                  go_at_call 19
                  refine (ours_any _ _ _ _ _).mono ?_
                  rintro e9 w10 ⟨rfl, q⟩
                  exact hK.out _ _ (hS.val rfl (noStore_of rfl) q rfl)
                · intro L s w9 hN hU hi hS K hK
                  dsimp only at hK ⊢
                  simp only [Act.put, List.setIfInBounds_toArray, List.set_cons_zero, List.set_cons_succ] at hK
                  have e10 : s 10 = .bool false := hS.val_at 10 rfl (by decide) (hN.out 10 rfl)
                  simp only [e10] at hK ⊢
                  obtain ⟨u1, u2, _, _⟩ := (hS.mem.k (i := 6) rfl).both
                  go_simp
                  exact hK.out _ _ (hS.val rfl (noStore_of rfl) (Below.refl _ _) rfl)
                · intro L s w9 hN hU hi hS K hK
                  dsimp only at hK ⊢
                  simp only [Act.put, List.setIfInBounds_toArray, List.set_cons_zero, List.set_cons_succ] at hK
                  have e12 : s 12 = iv n A20 xs.length c20 := hS.val_at 12 rfl (by decide) (hN.out 12 rfl)
                  simp only [e12] at hK ⊢
                  have e13 : s 13 = iv n A xs.length c := hS.val_at 13 rfl (by decide) (hN.out 13 rfl)
                  simp only [e13] at hK ⊢
                  have e10 : s 10 = .bool false := hS.val_at 10 rfl (by decide) (hN.out 10 rfl)
                  simp only [e10] at hK ⊢
                  go_simp
                  go_at_call 18
                  refine (rsame_self (hS.mem.r (i := 0) rfl) (hS.mem.r (i := 6) rfl) l1).mono ?_
                  rintro e9 w10 ⟨rfl, q⟩
                  exact hK.out _ _ (hS.val rfl (noStore_of rfl) q rfl)
                · intro L s w9 hN hU hi hS K hK
                  dsimp only at hK ⊢
                  simp only [Act.put, List.setIfInBounds_toArray, List.set_cons_zero, List.set_cons_succ] at hK
                  have e14 : s 14 = .bool true := hS.val_at 14 rfl (by decide) (hN.out 14 rfl)
                  simp only [e14] at hK ⊢
                  have e10 : s 10 = .bool false := hS.val_at 10 rfl (by decide) (hN.out 10 rfl)
                  simp only [e10] at hK ⊢
                  go_simp
                  exact hK.out _ _ (hS.val rfl (noStore_of rfl) (Below.refl _ _) rfl)
                · intro L s w9 hN hU hi hS K hK
                  dsimp only at hK ⊢
                  simp only [Act.put, List.setIfInBounds_toArray, List.set_cons_zero, List.set_cons_succ] at hK
                  have e10 : s 10 = .bool false := hS.val_at 10 rfl (by decide) (hN.out 10 rfl)
                  simp only [e10] at hK ⊢
                  have e15 : s 15 = .bool false := hS.val_at 15 rfl (by decide) (hN.out 15 rfl)
                  simp only [e15] at hK ⊢
                  go_simp
                  exact hK.out _ _ (hS.val rfl (noStore_of rfl) (Below.refl _ _) rfl)
                · intro L s w9 hN hU hi hS K hK
                  dsimp only at hK ⊢
                  simp only [Act.put, List.setIfInBounds_toArray, List.set_cons_zero, List.set_cons_succ] at hK
                  have e16 : s 16 = .bool false := hS.val_at 16 rfl (by decide) (hN.out 16 rfl)
                  simp only [e16] at hK ⊢
                  go_simp
                  exact hK.out _ _ (hS.val rfl (noStore_of rfl) (Below.refl _ _) rfl)
                · intro L s w9 hN hU hi hS K hK
                  dsimp only at hK ⊢
                  simp only [Act.put, List.setIfInBounds_toArray, List.set_cons_zero, List.set_cons_succ] at hK
                  have e17 : s 17 = .bool false := hS.val_at 17 rfl (by decide) (hN.out 17 rfl)
                  simp only [e17] at hK ⊢
                  go_simp
                  exact hK.out _ _ (hS.val rfl (noStore_of rfl) (Below.refl _ _) rfl)
                · intro L s w9 hN hU hi hS K hK
                  dsimp only at hK ⊢
                  simp only [Act.put, List.setIfInBounds_toArray, List.set_cons_zero, List.set_cons_succ] at hK
                  have e18 : s 18 = .pointer (some ⟨g16, 1, none⟩) := hS.val_at 18 rfl (by decide) (hN.out 18 rfl)
                  simp only [e18] at hK ⊢
                  have e17 : s 17 = .bool false := hS.val_at 17 rfl (by decide) (hN.out 17 rfl)
                  simp only [e17] at hK ⊢
                  obtain ⟨u1, u2, _, _⟩ := (hS.mem.k (i := 2) rfl).both
                  go_simp
                  exact hK.out _ _ (hS.val rfl (noStore_of rfl) (Below.refl _ _) rfl)
                · intro L s w9 hN hU hi hS K hK
                  dsimp only at hK ⊢
                  simp only [Act.put, List.setIfInBounds_toArray, List.set_cons_zero, List.set_cons_succ] at hK
                  have e19 : s 19 = .slice A16 0 c16 := hS.val_at 19 rfl (by decide) (hN.out 19 rfl)
                  simp only [e19] at hK ⊢
                  have e17 : s 17 = .bool false := hS.val_at 17 rfl (by decide) (hN.out 17 rfl)
                  simp only [e17] at hK ⊢
                  go_simp
                  exact hK.out _ _ (hS.val rfl (noStore_of rfl) (Below.refl _ _) rfl)
                · intro L s w9 hN hU hi hS K hK
                  dsimp only at hK ⊢
                  simp only [Act.put, List.setIfInBounds_toArray, List.set_cons_zero, List.set_cons_succ] at hK
                  have e20 : s 20 = .int .i64 0 := hS.val_at 20 rfl (by decide) (hN.out 20 rfl)
                  simp only [e20] at hK ⊢
                  have e17 : s 17 = .bool false := hS.val_at 17 rfl (by decide) (hN.out 17 rfl)
                  simp only [e17] at hK ⊢
                  go_simp
                  exact hK.out _ _ (hS.val rfl (noStore_of rfl) (Below.refl _ _) rfl)
                · intro L s w9 hN hU hi hS K hK
                  dsimp only at hK ⊢
                  simp only [Act.put, List.setIfInBounds_toArray, List.set_cons_zero, List.set_cons_succ] at hK
                  have e21 : s 21 = .bool false := hS.val_at 21 rfl (by decide) (hN.out 21 rfl)
                  simp only [e21] at hK ⊢
                  have e17 : s 17 = .bool false := hS.val_at 17 rfl (by decide) (hN.out 17 rfl)
                  simp only [e17] at hK ⊢
                  go_simp
                  exact hK.out _ _ (hS.val rfl (noStore_of rfl) (Below.refl _ _) rfl)
                · intro L s w9 hN hU hi hS K hK
                  dsimp only at hK ⊢
                  simp only [Act.put, List.setIfInBounds_toArray, List.set_cons_zero, List.set_cons_succ] at hK
                  have e22 : s 22 = .bool false := hS.val_at 22 rfl (by decide) (hN.out 22 rfl)
                  simp only [e22] at hK ⊢
                  go_simp
                  exact hK.out undef _ (hS.skip rfl (noStore_of rfl) (Below.refl _ _))
                · intro L s w9 hN hU hi hS K hK
                  dsimp only at hK ⊢
                  simp only [Act.put, List.setIfInBounds_toArray, List.set_cons_zero, List.set_cons_succ] at hK
                  have e22 : s 22 = .bool false := hS.val_at 22 rfl (by decide) (hN.out 22 rfl)
                  simp only [e22] at hK ⊢
                  go_simp
                  exact hK.out undef _ (hS.skip rfl (noStore_of rfl) (Below.refl _ _))
                · intro L s w9 hN hU hi hS K hK
                  dsimp only at hK ⊢
                  simp only [Act.put, List.setIfInBounds_toArray, List.set_cons_zero, List.set_cons_succ] at hK
                  have e22 : s 22 = .bool false := hS.val_at 22 rfl (by decide) (hN.out 22 rfl)
                  simp only [e22] at hK ⊢
                  go_simp
                  exact hK.out undef _ (hS.skip rfl (noStore_of rfl) (Below.refl _ _))
                · intro L s w9 hN hU hi hS K hK
                  dsimp only at hK ⊢
                  simp only [Act.put, List.setIfInBounds_toArray, List.set_cons_zero, List.set_cons_succ] at hK
                  have e22 : s 22 = .bool false := hS.val_at 22 rfl (by decide) (hN.out 22 rfl)
                  simp only [e22] at hK ⊢
                  go_simp
                  exact hK.out undef _ (hS.skip rfl (noStore_of rfl) (Below.refl _ _))
                · intro L s w9 hN hU hi hS K hK
                  dsimp only at hK ⊢
                  simp only [Act.put, List.setIfInBounds_toArray, List.set_cons_zero, List.set_cons_succ] at hK
                  have e22 : s 22 = .bool false := hS.val_at 22 rfl (by decide) (hN.out 22 rfl)
                  simp only [e22] at hK ⊢
                  go_simp
                  exact hK.out undef _ (hS.skip rfl (noStore_of rfl) (Below.refl _ _))
                · intro L s w9 hN hU hi hS K hK
                  dsimp only at hK ⊢
                  simp only [Act.put, List.setIfInBounds_toArray, List.set_cons_zero, List.set_cons_succ] at hK
                  have e22 : s 22 = .bool false := hS.val_at 22 rfl (by decide) (hN.out 22 rfl)
                  simp only [e22] at hK ⊢
                  have e17 : s 17 = .bool false := hS.val_at 17 rfl (by decide) (hN.out 17 rfl)
                  simp only [e17] at hK ⊢
                  go_simp
                  exact hK.out _ _ (hS.val rfl (noStore_of rfl) (Below.refl _ _) rfl)
                · intro L s w9 hN hU hi hS K hK
                  dsimp only at hK ⊢
                  simp only [Act.put, List.setIfInBounds_toArray, List.set_cons_zero, List.set_cons_succ] at hK
                  have e17 : s 17 = .bool false := hS.val_at 17 rfl (by decide) (hN.out 17 rfl)
                  simp only [e17] at hK ⊢
                  have e28 : s 28 = .bool false := hS.val_at 28 rfl (by decide) (hN.out 28 rfl)
                  simp only [e28] at hK ⊢
                  go_simp
                  exact hK.out _ _ (hS.val rfl (noStore_of rfl) (Below.refl _ _) rfl)
              intro L s w9 hall hS
              have e29 : s 29 = .bool false := hS.val_at 29 rfl (by decide) (hall 29 (by decide))
              go_wp2_with fail
              go_meet
              first | exact ⟨rfl, hS.mem⟩ | exact ⟨e29, hS.mem⟩
            · have hr0 : 0 < rd.length := List.length_pos_iff.2 hr
              clear hr
              refine region_st (n := 30) (frame := ?frame5) (fun j => [.val (.fix (.int .i64 0)), .val (.fix (.bool false)), .val (.fix (.bool false)), .val (.fix (.int .i64 0)), .val (.fix (.bool false)), .val (.fix (.bool false)), .val (.fix (.bool false)), .val (.fix (.int .i64 0)), .val (.fix (.bool false)), .val (.fix (.bool false)), .val (.fix (.bool false)), .val (.fix (iv n A20 xs.length c20)), .val (.fix (iv n A20 xs.length c20)), .val (.fix (iv n A xs.length c)), .val (.fix (.bool true)), .val (.fix (.bool false)), .val (.fix (.bool false)), .val (.fix (.bool false)), .val (.fix (.pointer (some ⟨g16, 1, none⟩))), .val (.fix (.slice A16 rd.length c16)), .val (.fix (.int .i64 (rd.length : Int))), .val (.fix (.bool true)), .val (.fix (.bool true)), .val (.fix (.pointer (some ⟨g16, 0, none⟩))), .val (.fix (.bool rn)), .val (.fix (.pointer (some ⟨w.heap.size + 1, 0, none⟩))), .val (.fix (.bool rn)), .val (.fix (.bool false)), .val (.fix (.bool false)), .val (.fix (.bool false))].getD j .none) [] (by kernel_rfl) (by kernel_rfl) (by kernel_rfl) rfl M (fun _ h => by cases h) (fun _ h => by cases h) ?_ ?_ ?_
              case refine_1 =>
                intro s
                simp only [fr, Act.put, List.setIfInBounds_toArray, List.set_cons_zero, List.set_cons_succ, Nat.reduceAdd]
                rfl
              case refine_2 =>
                refine Steps.cons 0 (j := 1) rfl ?_ (Steps.cons 1 (j := 2) rfl ?_ (Steps.cons 2 (j := 3) rfl ?_ (Steps.cons 3 (j := 4) rfl ?_ (Steps.cons 4 (j := 5) rfl ?_ (Steps.cons 5 (j := 6) rfl ?_ (Steps.cons 6 (j := 7) rfl ?_ (Steps.cons 7 (j := 8) rfl ?_ (Steps.cons 8 (j := 9) rfl ?_ (Steps.cons 9 (j := 10) rfl ?_ (Steps.cons 10 (j := 11) rfl ?_ (Steps.cons 11 (j := 12) rfl ?_ (Steps.cons 12 (j := 13) rfl ?_ (Steps.cons 13 (j := 14) rfl ?_ (Steps.cons 14 (j := 15) rfl ?_ (Steps.cons 15 (j := 16) rfl ?_ (Steps.cons 16 (j := 17) rfl ?_ (Steps.cons 17 (j := 18) rfl ?_ (Steps.cons 18 (j := 19) rfl ?_ (Steps.cons 19 (j := 20) rfl ?_ (Steps.cons 20 (j := 21) rfl ?_ (Steps.cons 21 (j := 22) rfl ?_ (Steps.cons 22 (j := 23) rfl ?_ (Steps.cons 23 (j := 24) rfl ?_ (Steps.cons 24 (j := 25) rfl ?_ (Steps.cons 25 (j := 26) rfl ?_ (Steps.cons 26 (j := 27) rfl ?_ (Steps.cons 27 (j := 28) rfl ?_ (Steps.cons 28 (j := 29) rfl ?_ (Steps.cons 29 (j := 30) rfl ?_ Steps.nil)))))))))))))))))))))))))))))
                · intro L s w9 hN hU hi hS K hK
                  dsimp only at hK ⊢
                  simp only [Act.put, List.setIfInBounds_toArray, List.set_cons_zero, List.set_cons_succ] at hK
                  go_simp
                  exact hK.out _ _ (hS.val rfl (noStore_of rfl) (Below.refl _ _) rfl)
                · intro L s w9 hN hU hi hS K hK
                  dsimp only at hK ⊢
                  simp only [Act.put, List.setIfInBounds_toArray, List.set_cons_zero, List.set_cons_succ] at hK
                  have e0 : s 0 = .int .i64 0 := hS.val_at 0 rfl (by decide) (hN.out 0 rfl)
                  simp only [e0] at hK ⊢
                  go_simp
                  exact hK.out _ _ (hS.val rfl (noStore_of rfl) (Below.refl _ _) rfl)
                · intro L s w9 hN hU hi hS K hK
                  dsimp only at hK ⊢
                  simp only [Act.put, List.setIfInBounds_toArray, List.set_cons_zero, List.set_cons_succ] at hK
                  have e1 : s 1 = .bool false := hS.val_at 1 rfl (by decide) (hN.out 1 rfl)
                  simp only [e1] at hK ⊢
                  go_simp
                  exact hK.out _ _ (hS.val rfl (noStore_of rfl) (Below.refl _ _) rfl)
                · intro L s w9 hN hU hi hS K hK
                  dsimp only at hK ⊢
                  simp only [Act.put, List.setIfInBounds_toArray, List.set_cons_zero, List.set_cons_succ] at hK
                  have e2 : s 2 = .bool false := hS.val_at 2 rfl (by decide) (hN.out 2 rfl)
                  simp only [e2] at hK ⊢
                  go_simp
                  exact hK.out _ _ (hS.val rfl (noStore_of rfl) (Below.refl _ _) rfl)
                · intro L s w9 hN hU hi hS K hK
                  dsimp only at hK ⊢
                  simp only [Act.put, List.setIfInBounds_toArray, List.set_cons_zero, List.set_cons_succ] at hK
                  have e2 : s 2 = .bool false := hS.val_at 2 rfl (by decide) (hN.out 2 rfl)
                  simp only [e2] at hK ⊢
                  have e3 : s 3 = .int .i64 0 := hS.val_at 3 rfl (by decide) (hN.out 3 rfl)
                  simp only [e3] at hK ⊢
                  go_simp
                  exact hK.out _ _ (hS.val rfl (noStore_of rfl) (Below.refl _ _) rfl)
                · intro L s w9 hN hU hi hS K hK
                  dsimp only at hK ⊢
                  simp only [Act.put, List.setIfInBounds_toArray, List.set_cons_zero, List.set_cons_succ] at hK
                  have e2 : s 2 = .bool false := hS.val_at 2 rfl (by decide) (hN.out 2 rfl)
                  simp only [e2] at hK ⊢
                  have e4 : s 4 = .bool false := hS.val_at 4 rfl (by decide) (hN.out 4 rfl)
                  simp only [e4] at hK ⊢
                  go_simp
                  exact hK.out _ _ (hS.val rfl (noStore_of rfl) (Below.refl _ _) rfl)
                · intro L s w9 hN hU hi hS K hK
                  dsimp only at hK ⊢
                  simp only [Act.put, List.setIfInBounds_toArray, List.set_cons_zero, List.set_cons_succ] at hK
                  have e5 : s 5 = .bool false := hS.val_at 5 rfl (by decide) (hN.out 5 rfl)
                  simp only [e5] at hK ⊢
                  go_simp
                  exact hK.out _ _ (hS.val rfl (noStore_of rfl) (Below.refl _ _) rfl)
                · intro L s w9 hN hU hi hS K hK
                  dsimp only at hK ⊢
                  simp only [Act.put, List.setIfInBounds_toArray, List.set_cons_zero, List.set_cons_succ] at hK
                  have e6 : s 6 = .bool false := hS.val_at 6 rfl (by decide) (hN.out 6 rfl)
                  simp only [e6] at hK ⊢
                  go_simp
                  exact hK.out _ _ (hS.val rfl (noStore_of rfl) (Below.refl _ _) rfl)
                · intro L s w9 hN hU hi hS K hK
                  dsimp only at hK ⊢
                  simp only [Act.put, List.setIfInBounds_toArray, List.set_cons_zero, List.set_cons_succ] at hK
                  have e6 : s 6 = .bool false := hS.val_at 6 rfl (by decide) (hN.out 6 rfl)
                  simp only [e6] at hK ⊢
                  have e7 : s 7 = .int .i64 0 := hS.val_at 7 rfl (by decide) (hN.out 7 rfl)
                  simp only [e7] at hK ⊢
                  go_simp
                  exact hK.out _ _ (hS.val rfl (noStore_of rfl) (Below.refl _ _) rfl)
                · intro L s w9 hN hU hi hS K hK
                  dsimp only at hK ⊢
                  simp only [Act.put, List.setIfInBounds_toArray, List.set_cons_zero, List.set_cons_succ] at hK
                  have e6 : s 6 = .bool false := hS.val_at 6 rfl (by decide) (hN.out 6 rfl)
                  simp only [e6] at hK ⊢
                  have e8 : s 8 = .bool false := hS.val_at 8 rfl (by decide) (hN.out 8 rfl)
                  simp only [e8] at hK ⊢
                  go_simp
                  exact hK.out _ _ (hS.val rfl (noStore_of rfl) (Below.refl _ _) rfl)
                · intro L s w9 hN hU hi hS K hK
                  dsimp only at hK ⊢
                  simp only [Act.put, List.setIfInBounds_toArray, List.set_cons_zero, List.set_cons_succ] at hK
                  have e9 : s 9 = .bool false := hS.val_at 9 rfl (by decide) (hN.out 9 rfl)
                  simp only [e9] at hK ⊢
                  go_simp
                  exact hK.out _ _ (hS.val rfl (noStore_of rfl) (Below.refl _ _) rfl)
                · intro L s w9 hN hU hi hS K hK
                  dsimp only at hK ⊢
                  simp only [Act.put, List.setIfInBounds_toArray, List.set_cons_zero, List.set_cons_succ] at hK
                  have e10 : s 10 = .bool false := hS.val_at 10 rfl (by decide) (hN.out 10 rfl)
                  simp only [e10] at hK ⊢
                  obtain ⟨u1, u2, _, _⟩ := (hS.mem.k (i := 0) rfl).both
                  go_simp
                  exact hK.out _ _ (hS.val rfl (noStore_of rfl) (Below.refl _ _) rfl)
                · intro L s w9 hN hU hi hS K hK
                  dsimp only at hK ⊢
                  simp only [Act.put, List.setIfInBounds_toArray, List.set_cons_zero, List.set_cons_succ] at hK
                  have e11 : s 11 = iv n A20 xs.length c20 := hS.val_at 11 rfl (by decide) (hN.out 11 rfl)
                  simp only [e11] at hK ⊢
                  have e10 : s 10 = .bool false := hS.val_at 10 rfl (by decide) (hN.out 10 rfl)
                  simp only [e10] at hK ⊢
                  go_simp
                  go_at_call 19
                  refine (ours_any _ _ _ _ _).mono ?_
                  rintro e9 w10 ⟨rfl, q⟩
                  exact hK.out _ _ (hS.val rfl (noStore_of rfl) q rfl)
                · intro L s w9 hN hU hi hS K hK
                  dsimp only at hK ⊢
                  simp only [Act.put, List.setIfInBounds_toArray, List.set_cons_zero, List.set_cons_succ] at hK
                  have e10 : s 10 = .bool false := hS.val_at 10 rfl (by decide) (hN.out 10 rfl)
                  simp only [e10] at hK ⊢
                  obtain ⟨u1, u2, _, _⟩ := (hS.mem.k (i := 6) rfl).both
                  go_simp
                  exact hK.out _ _ (hS.val rfl (noStore_of rfl) (Below.refl _ _) rfl)
                · intro L s w9 hN hU hi hS K hK
                  dsimp only at hK ⊢
                  simp only [Act.put, List.setIfInBounds_toArray, List.set_cons_zero, List.set_cons_succ] at hK
                  have e12 : s 12 = iv n A20 xs.length c20 := hS.val_at 12 rfl (by decide) (hN.out 12 rfl)
                  simp only [e12] at hK ⊢
                  have e13 : s 13 = iv n A xs.length c := hS.val_at 13 rfl (by decide) (hN.out 13 rfl)
                  simp only [e13] at hK ⊢
                  have e10 : s 10 = .bool false := hS.val_at 10 rfl (by decide) (hN.out 10 rfl)
                  simp only [e10] at hK ⊢
                  go_simp
                  go_at_call 18
                  refine (rsame_self (hS.mem.r (i := 0) rfl) (hS.mem.r (i := 6) rfl) l1).mono ?_
                  rintro e9 w10 ⟨rfl, q⟩
                  exact hK.out _ _ (hS.val rfl (noStore_of rfl) q rfl)
                · intro L s w9 hN hU hi hS K hK
                  dsimp only at hK ⊢
                  simp only [Act.put, List.setIfInBounds_toArray, List.set_cons_zero, List.set_cons_succ] at hK
                  have e14 : s 14 = .bool true := hS.val_at 14 rfl (by decide) (hN.out 14 rfl)
                  simp only [e14] at hK ⊢
                  have e10 : s 10 = .bool false := hS.val_at 10 rfl (by decide) (hN.out 10 rfl)
                  simp only [e10] at hK ⊢
                  go_simp
                  exact hK.out _ _ (hS.val rfl (noStore_of rfl) (Below.refl _ _) rfl)
                · intro L s w9 hN hU hi hS K hK
                  dsimp only at hK ⊢
                  simp only [Act.put, List.setIfInBounds_toArray, List.set_cons_zero, List.set_cons_succ] at hK
                  have e10 : s 10 = .bool false := hS.val_at 10 rfl (by decide) (hN.out 10 rfl)
                  simp only [e10] at hK ⊢
                  have e15 : s 15 = .bool false := hS.val_at 15 rfl (by decide) (hN.out 15 rfl)
                  simp only [e15] at hK ⊢
                  go_simp
                  exact hK.out _ _ (hS.val rfl (noStore_of rfl) (Below.refl _ _) rfl)
                · intro L s w9 hN hU hi hS K hK
                  dsimp only at hK ⊢
                  simp only [Act.put, List.setIfInBounds_toArray, List.set_cons_zero, List.set_cons_succ] at hK
                  have e16 : s 16 = .bool false := hS.val_at 16 rfl (by decide) (hN.out 16 rfl)
                  simp only [e16] at hK ⊢
                  go_simp
                  exact hK.out _ _ (hS.val rfl (noStore_of rfl) (Below.refl _ _) rfl)
                · intro L s w9 hN hU hi hS K hK
                  dsimp only at hK ⊢
                  simp only [Act.put, List.setIfInBounds_toArray, List.set_cons_zero, List.set_cons_succ] at hK
                  have e17 : s 17 = .bool false := hS.val_at 17 rfl (by decide) (hN.out 17 rfl)
                  simp only [e17] at hK ⊢
                  go_simp
                  exact hK.out _ _ (hS.val rfl (noStore_of rfl) (Below.refl _ _) rfl)
                · intro L s w9 hN hU hi hS K hK
                  dsimp only at hK ⊢
                  simp only [Act.put, List.setIfInBounds_toArray, List.set_cons_zero, List.set_cons_succ] at hK
                  have e18 : s 18 = .pointer (some ⟨g16, 1, none⟩) := hS.val_at 18 rfl (by decide) (hN.out 18 rfl)
                  simp only [e18] at hK ⊢
                  have e17 : s 17 = .bool false := hS.val_at 17 rfl (by decide) (hN.out 17 rfl)
                  simp only [e17] at hK ⊢
                  obtain ⟨u1, u2, _, _⟩ := (hS.mem.k (i := 2) rfl).both
                  go_simp
                  exact hK.out _ _ (hS.val rfl (noStore_of rfl) (Below.refl _ _) rfl)
                · intro L s w9 hN hU hi hS K hK
                  dsimp only at hK ⊢
                  simp only [Act.put, List.setIfInBounds_toArray, List.set_cons_zero, List.set_cons_succ] at hK
                  have e19 : s 19 = .slice A16 rd.length c16 := hS.val_at 19 rfl (by decide) (hN.out 19 rfl)
                  simp only [e19] at hK ⊢
                  have e17 : s 17 = .bool false := hS.val_at 17 rfl (by decide) (hN.out 17 rfl)
                  simp only [e17] at hK ⊢
                  go_simp
                  exact hK.out _ _ (hS.val rfl (noStore_of rfl) (Below.refl _ _) rfl)
                · intro L s w9 hN hU hi hS K hK
                  dsimp only at hK ⊢
                  simp only [Act.put, List.setIfInBounds_toArray, List.set_cons_zero, List.set_cons_succ] at hK
                  have e20 : s 20 = .int .i64 (rd.length : Int) := hS.val_at 20 rfl (by decide) (hN.out 20 rfl)
                  simp only [e20] at hK ⊢
                  have e17 : s 17 = .bool false := hS.val_at 17 rfl (by decide) (hN.out 17 rfl)
                  simp only [e17] at hK ⊢
                  go_simp
                  exact hK.out _ _ (hS.val rfl (noStore_of rfl) (Below.refl _ _) rfl)
                · intro L s w9 hN hU hi hS K hK
                  dsimp only at hK ⊢
                  simp only [Act.put, List.setIfInBounds_toArray, List.set_cons_zero, List.set_cons_succ] at hK
                  have e21 : s 21 = .bool true := hS.val_at 21 rfl (by decide) (hN.out 21 rfl)
                  simp only [e21] at hK ⊢
                  have e17 : s 17 = .bool false := hS.val_at 17 rfl (by decide) (hN.out 17 rfl)
                  simp only [e17] at hK ⊢
                  go_simp
                  exact hK.out _ _ (hS.val rfl (noStore_of rfl) (Below.refl _ _) rfl)
                · intro L s w9 hN hU hi hS K hK
                  dsimp only at hK ⊢
                  simp only [Act.put, List.setIfInBounds_toArray, List.set_cons_zero, List.set_cons_succ] at hK
                  have e22 : s 22 = .bool true := hS.val_at 22 rfl (by decide) (hN.out 22 rfl)
                  simp only [e22] at hK ⊢
                  go_simp
                  exact hK.out _ _ (hS.val rfl (noStore_of rfl) (Below.refl _ _) rfl)
                · intro L s w9 hN hU hi hS K hK
                  dsimp only at hK ⊢
                  simp only [Act.put, List.setIfInBounds_toArray, List.set_cons_zero, List.set_cons_succ] at hK
                  have e23 : s 23 = .pointer (some ⟨g16, 0, none⟩) := hS.val_at 23 rfl (by decide) (hN.out 23 rfl)
                  simp only [e23] at hK ⊢
                  have e22 : s 22 = .bool true := hS.val_at 22 rfl (by decide) (hN.out 22 rfl)
                  simp only [e22] at hK ⊢
                  obtain ⟨u1, u2, _, _⟩ := (hS.mem.k (i := 2) rfl).both
                  go_simp
                  exact hK.out _ _ (hS.val rfl (noStore_of rfl) (Below.refl _ _) rfl)
                · intro L s w9 hN hU hi hS K hK
                  dsimp only at hK ⊢
                  simp only [Act.put, List.setIfInBounds_toArray, List.set_cons_zero, List.set_cons_succ] at hK
                  have e22 : s 22 = .bool true := hS.val_at 22 rfl (by decide) (hN.out 22 rfl)
                  simp only [e22] at hK ⊢
                  go_simp
                  exact hK.out _ _ (hS.val rfl (noStore_of rfl) (Below.refl _ _) rfl)
                · intro L s w9 hN hU hi hS K hK
                  dsimp only at hK ⊢
                  simp only [Act.put, List.setIfInBounds_toArray, List.set_cons_zero, List.set_cons_succ] at hK
                  have e25 : s 25 = .pointer (some ⟨w.heap.size + 1, 0, none⟩) := hS.val_at 25 rfl (by decide) (hN.out 25 rfl)
                  simp only [e25] at hK ⊢
                  have e22 : s 22 = .bool true := hS.val_at 22 rfl (by decide) (hN.out 22 rfl)
                  simp only [e22] at hK ⊢
                  obtain ⟨u1, u2, _, _⟩ := (hS.mem.k (i := 5) rfl).both
                  go_simp
                  exact hK.out _ _ (hS.val rfl (noStore_of rfl) (Below.refl _ _) rfl)
                · intro L s w9 hN hU hi hS K hK
                  dsimp only at hK ⊢
                  simp only [Act.put, List.setIfInBounds_toArray, List.set_cons_zero, List.set_cons_succ] at hK
                  have e24 : s 24 = .bool rn := hS.val_at 24 rfl (by decide) (hN.out 24 rfl)
                  simp only [e24] at hK ⊢
                  have e26 : s 26 = .bool rn := hS.val_at 26 rfl (by decide) (hN.out 26 rfl)
                  simp only [e26] at hK ⊢
                  have e22 : s 22 = .bool true := hS.val_at 22 rfl (by decide) (hN.out 22 rfl)
                  simp only [e22] at hK ⊢
                  go_simp
                  exact hK.out _ _ (hS.val rfl (noStore_of rfl) (Below.refl _ _) rfl)
                · intro L s w9 hN hU hi hS K hK
                  dsimp only at hK ⊢
                  simp only [Act.put, List.setIfInBounds_toArray, List.set_cons_zero, List.set_cons_succ] at hK
                  have e22 : s 22 = .bool true := hS.val_at 22 rfl (by decide) (hN.out 22 rfl)
                  simp only [e22] at hK ⊢
                  have e27 : s 27 = .bool false := hS.val_at 27 rfl (by decide) (hN.out 27 rfl)
                  simp only [e27] at hK ⊢
                  have e17 : s 17 = .bool false := hS.val_at 17 rfl (by decide) (hN.out 17 rfl)
                  simp only [e17] at hK ⊢
                  go_simp
                  exact hK.out _ _ (hS.val rfl (noStore_of rfl) (Below.refl _ _) rfl)
                · intro L s w9 hN hU hi hS K hK
                  dsimp only at hK ⊢
                  simp only [Act.put, List.setIfInBounds_toArray, List.set_cons_zero, List.set_cons_succ] at hK
                  have e17 : s 17 = .bool false := hS.val_at 17 rfl (by decide) (hN.out 17 rfl)
                  simp only [e17] at hK ⊢
                  have e28 : s 28 = .bool false := hS.val_at 28 rfl (by decide) (hN.out 28 rfl)
                  simp only [e28] at hK ⊢
                  go_simp
                  exact hK.out _ _ (hS.val rfl (noStore_of rfl) (Below.refl _ _) rfl)
              intro L s w9 hall hS
              have e29 : s 29 = .bool false := hS.val_at 29 rfl (by decide) (hall 29 (by decide))
              go_wp2_with fail
              go_meet
              first | exact ⟨rfl, hS.mem⟩ | exact ⟨e29, hS.mem⟩
          case rest =>
            clear M
            obtain ⟨rfl, M⟩ := hcut
            obtain ⟨v1, v2, _, _⟩ := (M.k (i := 2) rfl).both
            obtain ⟨v3, v4, _, _⟩ := (M.k (i := 5) rfl).both
            go_wp2_with fail
            refine (scmp_eq' HC.out (M.r (i := 2) rfl) (M.r (i := 5) rfl)).mono ?_
            rintro e z ⟨rfl, q⟩
            replace M := M.below q
            go_wp2
            go_ret
            exact ⟨rfl, M.bel⟩
end Go.Proofs.Ytmhjjjffgpdolaa

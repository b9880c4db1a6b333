/-
  The walk of the law RatioBetween.
-/
import Derived.Test.YtdhikpfppbcjkaaQn
set_option linter.unusedSimpArgs false
set_option linter.unusedVariables false
namespace Go.Proofs.Ytdhikpfppbcjkaa
open Go.RowKit Num

theorem floor_sz {p : Rat} {k : Nat} (h : Sz p k) : (sD p.floor).length ≤ k + 1 := by
  rw [Rat.floor_def]
  have hp := p.den_pos
  have hpz : (0 : Int) < p.den := by omega
  have hb : (p.num / (p.den : Int)).natAbs ≤ p.num.natAbs + 1 := by
    have h1 := Int.mul_ediv_add_emod p.num p.den
    have h2 := Int.emod_nonneg p.num (by omega : (p.den : Int) ≠ 0)
    have h3 := Int.emod_lt_of_pos p.num hpz
    rcases Int.lt_or_le (p.num / p.den) 0 with h4 | h4
    · have : (p.den : Int) * (p.num / p.den) ≤ 1 * (p.num / p.den) := Int.mul_le_mul_of_nonpos_right (by omega) (by omega)
      by_cases h5 : p.num / (p.den : Int) + 1 = 0
      · omega
      · have h6 : (p.den : Int) * (p.num / p.den + 1) ≤ 1 * (p.num / p.den + 1) := Int.mul_le_mul_of_nonpos_right (by omega) (by omega)
        rw [Int.mul_add] at h6
        omega
    · have : 1 * (p.num / p.den) ≤ (p.den : Int) * (p.num / p.den) := Int.mul_le_mul_of_nonneg_right (by omega) h4
      omega
  have la := sD_ltQ h.1
  refine sD_small (Nat.lt_of_le_of_lt hb ?_)
  rw [Nat.pow_succ]
  generalize (4294967296 : Nat) ^ k = K at *
  omega
theorem divInt_one' (a : Int) : Rat.divInt a 1 = (a : Rat) := by
  have h := Rat.mkRat_self (a : Rat)
  rw [Rat.num_intCast, Rat.den_intCast] at h
  rw [show (1 : Int) = ((1 : Nat) : Int) from rfl, Rat.divInt_ofNat, h]
theorem sz_int {a : Int} {k : Nat} (h : (sD a).length ≤ k) (hk : 1 ≤ k) : Sz (a : Rat) k := ⟨by rw [Rat.num_intCast]; exact h, by rw [Rat.den_intCast]; exact hk⟩
theorem make_int {a : Int} {k : Nat} (h : (sD a).length ≤ k) (hk : 1 ≤ k) (hk2 : k ≤ 64) : qmakeR (sN a) (sD a) (sN 1) (sD 1) = (sN (a : Rat).num, sD (a : Rat).num, false, dig (a : Rat).den, 0) := by
  rw [make_sd (by omega) (by decide) (by decide), divInt_one', fitQ_sz (sz_int h hk) hk2]
theorem between_of {n m : Bool} {xs ys : List Nat} (ox : Ok xs) (oy : Ok ys) (h : qright n xs m ys = true) (l1 : xs.length ≤ 8) (l2 : ys.length ≤ 8) :
    ∃ (fn : Bool) (fd : List Nat) (cn : Bool) (cd : List Nat) (nn : Bool) (mn : Bool) (md : List Nat) (p1 : Bool) (p2 : List Nat) (p3 : Bool) (p4 : List Nat) (t1 : Bool) (t2 : List Nat) (t3 : Bool) (t4 : List Nat) (x : Int),
      qfloorR n xs m ys = (fn, fd, 0) ∧ qceilR n xs m ys = (cn, cd, 0) ∧ qnegR n xs m ys = (nn, xs, m, ys, 0) ∧ qfloorR nn xs m ys = (mn, md, 0) ∧ snegR mn md = (cn, cd, 0) ∧ cd.length ≤ 256 ∧
      qmakeR fn fd (sN 1) (sD 1) = (p1, p2, p3, p4, 0) ∧ qaddR p1 p2 p3 p4 (sN 1) (sD 1) false [1] = (t1, t2, t3, t4, 0) ∧ qcmpR p1 p2 p3 p4 n xs m ys = (x, 0) ∧ qcmpR n xs m ys t1 t2 t3 t4 = (-1, 0) ∧ (x = -1 ∨ x = 0) := by
  obtain ⟨q, rfl, rfl, rfl, rfl, sq⟩ := rat_sz ox oy h l1 l2
  have hf := floor_sz sq
  have hn := floor_sz (sz_neg sq)
  have sF := sz_int hf (by decide)
  have s1 : Sz (1 : Rat) 1 := ⟨by decide, by decide⟩
  have hneg := qneg_sz sq (by decide)
  rw [Rat.neg_num, Rat.neg_den, sD_neg] at hneg
  have hfn := qfloor_sz (sz_neg sq) (by decide)
  rw [Rat.neg_num, Rat.neg_den, sD_neg] at hfn
  have hlt : q < (q.floor : Rat) + 1 := by
    have := Rat.lt_floor_add_one q
    rwa [Rat.intCast_add, Rat.intCast_one] at this
  refine ⟨sN q.floor, sD q.floor, sN q.ceil, sD q.ceil, sN (-q.num), sN (-q).floor, sD (-q).floor, _, _, _, _, _, _, _, _, cmpQ (q.floor : Rat) q, qfloor_sz sq (by decide), qceil_sz sq (by decide), hneg, hfn, ?_, ?_, make_int hf (by decide) (by decide), qadd_sz sF s1 (by decide), qcmp_sz sF sq (by decide) (by decide), ?_, ?_⟩
  · rw [sneg_sdQ (by omega), Rat.ceil_eq_neg_floor_neg]
  · rw [Rat.ceil_eq_neg_floor_neg, sD_neg]
    omega
  · rw [qcmp_sz sq (sF.add s1) (by decide) (by decide)]
    unfold cmpQ
    rw [if_pos hlt]
  · unfold cmpQ
    rw [if_neg (Rat.not_lt.2 (Rat.floor_le q))]
    split
    · exact .inl rfl
    · exact .inr rfl
set_option maxRecDepth 100000 in
set_option maxHeartbeats 8000000 in
theorem ratioBetween_use (w : World) (n : Bool) (A : Option Addr) (c : Nat) (xs : List Nat) (ha : Rd w A c xs) (m : Bool) (B : Option Addr) (d : Nat) (ys : List Nat) (hb : Rd w B d ys) :
    Calls Try.prog 9 #[rv n A xs.length c m B ys.length d] w fun e w' => e = .returned (.bool true) ∧ Below w.heap.size w w' := by
  have M : Mem w (w.alloc (.cells #[.bool n, .slice A xs.length c, .bool m, .slice B ys.length d] 26)) [(w.heap.size, 26, #[.bool n, .slice A xs.length c, .bool m, .slice B ys.length d])] [(B, d, ys), (A, c, xs)] :=
    ((((Mem.start w).addR ha).addR hb).new 26 #[.bool n, .slice A xs.length c, .bool m, .slice B ys.length d])
  have ox := ha.ok
  have oy := hb.ok
  clear ha hb
  by_cases hf : xs.length ≤ 8 ∧ ys.length ≤ 8
  case neg =>
    have HF : Hid (decide (xs.length ≤ 8 ∧ ys.length ≤ 8) = false) := decide_eq_false hf
    clear hf
    go_enter Try.func9, Try.ntmps9
    go_wp2_with fail
    refine (qalive_any _).mono ?_
    rintro e y1 ⟨rfl, q⟩
    replace M := M.below q
    clear q
    obtain ⟨v1, v2, v3, v4⟩ := (M.k (i := 0) rfl).four
    go_wp2_with fail
    refine (few4_1 rfl).mono ?_
    rw [HF.out]
    rintro e y2 ⟨rfl, q⟩
    replace M := M.below q
    clear q v1 v2 v3 v4
    go_wp2
    go_ret
    exact ⟨rfl, M.bel⟩
  have HF : Hid (decide (xs.length ≤ 8 ∧ ys.length ≤ 8) = true) := decide_eq_true hf
  obtain ⟨hf1, hf2⟩ := hf
  rcases Bool.eq_false_or_eq_true (qright n xs m ys) with r1 | r1
  case inr =>
    have R1 := Lib.hid r1
    clear r1 hf1 hf2
    go_enter Try.func9, Try.ntmps9
    go_wp2_with fail
    refine (qalive_any _).mono ?_
    rintro e y1 ⟨rfl, q⟩
    replace M := M.below q
    clear q
    obtain ⟨v1, v2, v3, v4⟩ := (M.k (i := 0) rfl).four
    go_wp2_with fail
    refine (few4_1 rfl).mono ?_
    rw [HF.out]
    rintro e y2 ⟨rfl, q⟩
    replace M := M.below q
    clear q v1 v2 v3 v4
    obtain ⟨v1, v2, v3, v4⟩ := (M.k (i := 0) rfl).four
    go_wp2_with fail
    refine (rqright_any (M.r (i := 1) rfl) (M.r (i := 0) rfl)).mono ?_
    rw [R1.out]
    rintro e y3 ⟨rfl, q⟩
    replace M := M.below q
    clear q v1 v2 v3 v4
    go_wp2
    go_ret
    exact ⟨rfl, M.bel⟩
  have R1 := Lib.hid r1
  obtain ⟨fn, fd, cn, cd, nn, mn, md, p1, p2, p3, p4, t1, t2, t3, t4, x, h1, h2, h3, h4, h5, hl, h6, h7, h8, h9, h10⟩ := between_of ox oy r1 hf1 hf2
  have H1 := Lib.hid h1
  have H2 := Lib.hid h2
  have H3 := Lib.hid h3
  have H4 := Lib.hid h4
  have H5 := Lib.hid h5
  have H6 := Lib.hid h6
  have H7 := Lib.hid h7
  have H8 := Lib.hid h8
  have H9 := Lib.hid h9
  have X : Hid (x = -1 ∨ x = 0) := h10
  have L : Hid (cd.length ≤ 1000000) := Nat.le_trans hl (by decide)
  clear h1 h2 h3 h4 h5 hl h6 h7 h8 h9 h10 r1 hf1 hf2 ox oy
  go_enter Try.func9, Try.ntmps9
  go_wp2_with fail
  refine (qalive_any _).mono ?_
  rintro e y1 ⟨rfl, q⟩
  replace M := M.below q
  clear q
  obtain ⟨v1, v2, v3, v4⟩ := (M.k (i := 0) rfl).four
  go_wp2_with fail
  refine (few4_1 rfl).mono ?_
  rw [HF.out]
  rintro e y2 ⟨rfl, q⟩
  replace M := M.below q
  clear q v1 v2 v3 v4
  obtain ⟨v1, v2, v3, v4⟩ := (M.k (i := 0) rfl).four
  go_wp2_with fail
  refine (rqright_any (M.r (i := 1) rfl) (M.r (i := 0) rfl)).mono ?_
  rw [R1.out]
  rintro e y3 ⟨rfl, q⟩
  replace M := M.below q
  clear q v1 v2 v3 v4
  obtain ⟨v1, v2, v3, v4⟩ := (M.k (i := 0) rfl).four
  go_wp2_with fail
  refine (theirs4_any _ _ _ _ _ _ _ _ _).mono ?_
  rintro e y3 ⟨rfl, q⟩
  replace M := M.below q
  clear q v1 v2 v3 v4
  go_wp2_with fail
  refine (qfloor_any (M.r (i := 1) rfl) (M.r (i := 0) rfl)).mono ?_
  rw [H1.out]
  rintro e w3 ⟨⟨A3, c3, rfl, h⟩, q⟩
  replace M := ((M.below q).addR h).new 29 #[.bool fn, .slice A3 fd.length c3]
  clear q h
  obtain ⟨v1, v2, v3, v4⟩ := (M.k (i := 1) rfl).four
  go_wp2_with fail
  refine (theirs4_any _ _ _ _ _ _ _ _ _).mono ?_
  rintro e y3 ⟨rfl, q⟩
  replace M := M.below q
  clear q v1 v2 v3 v4
  go_wp2_with fail
  refine (qceil_any (M.r (i := 2) rfl) (M.r (i := 1) rfl)).mono ?_
  rw [H2.out]
  rintro e w5 ⟨⟨A5, c5, rfl, h⟩, q⟩
  replace M := ((M.below q).addR h).new 29 #[.bool cn, .slice A5 cd.length c5]
  clear q h
  obtain ⟨v1, v2, v3, v4⟩ := (M.k (i := 2) rfl).four
  go_wp2_with fail
  refine (theirs4_any _ _ _ _ _ _ _ _ _).mono ?_
  rintro e y3 ⟨rfl, q⟩
  replace M := M.below q
  clear q v1 v2 v3 v4
  go_wp2_with fail
  refine (qneg_any (M.r (i := 3) rfl) (M.r (i := 2) rfl)).mono ?_
  rw [H3.out]
  rintro e w7 ⟨⟨A7, c7, B7, d7, rfl, h, k⟩, q⟩
  replace M := (((M.below q).addR k).addR h).new 31 #[.bool nn, .slice A7 xs.length c7, .bool m, .slice B7 ys.length d7]
  clear q h k
  obtain ⟨v1, v2, v3, v4⟩ := (M.k (i := 0) rfl).four
  go_wp2_with fail
  refine (qfloor_any (M.r (i := 0) rfl) (M.r (i := 1) rfl)).mono ?_
  rw [H4.out]
  rintro e w9 ⟨⟨A9, c9, rfl, h⟩, q⟩
  replace M := ((M.below q).addR h).new 29 #[.bool mn, .slice A9 md.length c9]
  clear q h v1 v2 v3 v4
  obtain ⟨v1, v2, _, _⟩ := (M.k (i := 0) rfl).both
  go_wp2_with fail
  refine (sneg_any _ A9 c9 _ _ (M.r (i := 0) rfl)).mono ?_
  rw [H5.out]
  rintro e w11 ⟨⟨A11, c11, rfl, h⟩, q⟩
  replace M := ((M.below q).addR h).new 29 #[.bool cn, .slice A11 cd.length c11]
  clear q h v1 v2
  obtain ⟨v1, v2, _, _⟩ := (M.k (i := 0) rfl).both
  obtain ⟨v3, v4, _, _⟩ := (M.k (i := 3) rfl).both
  go_wp2_with fail
  refine (rsame_self (M.r (i := 0) rfl) (M.r (i := 4) rfl) L.out).mono ?_
  rintro e y5 ⟨rfl, q⟩
  replace M := M.below q
  clear q v1 v2 v3 v4
  go_upto_region 12 with fail
  generalize hw3 : w3.heap.size = g3 at *
  have M2 : Mem w y5 [(g3, 29, #[.bool fn, .slice A3 fd.length c3]), (w.heap.size, 26, #[.bool n, .slice A xs.length c, .bool m, .slice B ys.length d])] [(A3, c3, fd), (B, d, ys), (A, c, xs)] := M.sub (by simp) (by simp)
  clear M
  have M := M2
  clear M2
  go_cut [13, 14] (fun s5 s6 wx => ∃ (g13 : Nat) (A13 B13 : Option Addr) (c13 d13 : Nat), s5 = .pointer (some ⟨g13, 0, none⟩) ∧ s6 = .int .i64 0 ∧ Mem w wx [(g13, 31, #[.bool p1, .slice A13 p2.length c13, .bool p3, .slice B13 p4.length d13]), (w.heap.size, 26, #[.bool n, .slice A xs.length c, .bool m, .slice B ys.length d])] [(A13, c13, p2), (B13, d13, p4), (B, d, ys), (A, c, xs)])
  case first =>
    refine region_st (n := 9) (frame := ?frame1) (fun j => [.val (.fix (.agg #[.bool fn, .slice A3 fd.length c3])), .val (.num (sN 1) (sD 1)), .val (.re (p1, p2, p3, p4, 0)), .val (.re (p1, p2, p3, p4, 0)), .val (.rat (p1) (p2) (p3) (p4)), .val (.fix (.int .i64 0)), .cell 7 31 #[.bool false, .slice none 0 0, .bool false, .slice none 0 0] (.rat (p1) (p2) (p3) (p4)), .none, .val (.fix (.int .i64 0))].getD j .none) [] (by kernel_rfl) (by kernel_rfl) (by kernel_rfl) rfl M (fun _ h => by cases h) (fun _ h => by cases h) ?_ ?_ ?_
    case refine_1 =>
      intro s
      simp only [fr, Act.put, List.append_eq, List.cons_append, List.nil_append, List.setIfInBounds_toArray, List.set_cons_zero, List.set_cons_succ, Nat.reduceAdd]
      rfl
    case refine_2 =>
      refine Steps.cons 0 (j := 1) rfl ?_ (Steps.cons 1 (j := 2) rfl ?_ (Steps.cons 2 (j := 3) rfl ?_ (Steps.cons 3 (j := 4) rfl ?_ (Steps.cons 4 (j := 5) rfl ?_ (Steps.cons 5 (j := 6) rfl ?_ (Steps.cons 6 (j := 7) rfl ?_ (Steps.cons 7 (j := 8) rfl ?_ (Steps.cons 8 (j := 9) rfl ?_ Steps.nil))))))))
      · intro L s w9 hN hU hi hS K hK
        dsimp only at hK ⊢
        simp only [Act.put, List.setIfInBounds_toArray, List.set_cons_zero, List.set_cons_succ] at hK
        obtain ⟨u1, u2, _, _⟩ := (hS.mem.k (i := 0) rfl).both
        go_simp
        exact hK.out _ _ (hS.val rfl rfl (Below.refl _ _) rfl)
      · intro L s w9 hN hU hi hS K hK
        dsimp only at hK ⊢
        simp only [Act.put, List.setIfInBounds_toArray, List.set_cons_zero, List.set_cons_succ] at hK
        go_simp
        go_at_call 44
        refine (sof_any 1 _ (by decide) (by decide)).mono ?_
        rintro e9 w10 ⟨⟨A0, c0, rfl, h0⟩, q⟩
        exact hK.out _ _ (hS.val rfl rfl q ⟨A0, c0, rfl, h0⟩)
      · intro L s w9 hN hU hi hS K hK
        dsimp only at hK ⊢
        simp only [Act.put, List.setIfInBounds_toArray, List.set_cons_zero, List.set_cons_succ] at hK
        have e0 : s 0 = .agg #[.bool fn, .slice A3 fd.length c3] := hS.val_at 0 rfl (by decide) (hN.out 0 rfl)
        simp only [e0] at hK ⊢
        obtain ⟨A1, c1, e1, h1⟩ := hS.val_at 1 rfl (by decide) (hN.out 1 rfl)
        simp only [e1] at hK ⊢
        go_simp
        go_at_call 13
        refine (qmake_eq H6.out (hS.mem.r (i := 0) rfl) h1).mono ?_
        rintro e9 w10 ⟨⟨A0, c0, B0, d0, rfl, h0, k0⟩, q⟩
        exact hK.out _ _ (hS.val rfl rfl q ⟨A0, c0, B0, d0, rfl, h0, k0⟩)
      · intro L s w9 hN hU hi hS K hK
        dsimp only at hK ⊢
        simp only [Act.put, List.setIfInBounds_toArray, List.set_cons_zero, List.set_cons_succ] at hK
        obtain ⟨A2, c2, B2, d2, e2, h2, k2⟩ := hS.val_at 2 rfl (by decide) (hN.out 2 rfl)
        simp only [e2] at hK ⊢
        go_simp
        exact hK.out _ _ (hS.val rfl rfl (Below.refl _ _) ⟨A2, c2, B2, d2, rfl, h2, k2⟩)
      · intro L s w9 hN hU hi hS K hK
        dsimp only at hK ⊢
        simp only [Act.put, List.setIfInBounds_toArray, List.set_cons_zero, List.set_cons_succ] at hK
        obtain ⟨A3, c3, B3, d3, e3, h3, k3⟩ := hS.val_at 3 rfl (by decide) (hN.out 3 rfl)
        simp only [e3] at hK ⊢
        go_simp
        exact hK.out _ _ (hS.val rfl rfl (Below.refl _ _) ⟨A3, c3, B3, d3, rfl, h3, k3⟩)
      · intro L s w9 hN hU hi hS K hK
        dsimp only at hK ⊢
        simp only [Act.put, List.setIfInBounds_toArray, List.set_cons_zero, List.set_cons_succ] at hK
        obtain ⟨A3, c3, B3, d3, e3, h3, k3⟩ := hS.val_at 3 rfl (by decide) (hN.out 3 rfl)
        simp only [e3] at hK ⊢
        go_simp
        exact hK.out _ _ (hS.val rfl rfl (Below.refl _ _) rfl)
      · intro L s w9 hN hU hi hS K hK
        dsimp only at hK ⊢
        simp only [Act.put, List.setIfInBounds_toArray, List.set_cons_zero, List.set_cons_succ] at hK
        go_simp
        exact hK.out _ _ (hS.new rfl rfl hi.out (fun _ => hU.out 7 _ rfl rfl) rfl)
      · intro L s w9 hN hU hi hS K hK
        dsimp only at hK ⊢
        simp only [Act.put, List.setIfInBounds_toArray, List.set_cons_zero, List.set_cons_succ] at hK
        obtain ⟨A4, c4, B4, d4, e4, h4, k4⟩ := hS.val_at 4 rfl (by decide) (hN.out 4 rfl)
        simp only [e4] at hK ⊢
        obtain ⟨g9, cs9, e9, l9, b9, n9, z9, _⟩ := hS.cell_at 6 rfl (by decide) (hN.out 6 rfl)
        obtain rfl := z9 hi.out
        simp only [e9] at hK ⊢
        refine ite_of rfl ?_
        refine wp_store_row _ _ _ rfl g9 _ rfl rfl _ _ b9 info_rat rfl (by rw [← Array.all_toList]; rfl) ?_
        simp only [Act.put]
        exact hK.out undef _ (hS.fill (u := undef) (c := .rat (p1) (p2) (p3) (p4)) rfl rfl (by decide) rfl (hN.out 6 rfl) hi.out e9 (setRow_grown _ _ _) (b9.row _) rfl ⟨A4, c4, B4, d4, rfl, h4, k4⟩)
      · intro L s w9 hN hU hi hS K hK
        dsimp only at hK ⊢
        simp only [Act.put, List.setIfInBounds_toArray, List.set_cons_zero, List.set_cons_succ] at hK
        have e5 : s 5 = .int .i64 0 := hS.val_at 5 rfl (by decide) (hN.out 5 rfl)
        simp only [e5] at hK ⊢
        go_simp
        exact hK.out _ _ (hS.val rfl rfl (Below.refl _ _) rfl)
    intro L s w9 hall hS
    obtain ⟨g6, cs6, e6, l6, b6, n6, _, z6⟩ := hS.cell_at 6 rfl (by decide) (hall 6 (by decide))
    obtain ⟨A6, c6, B6, d6, rfl, h6, k6⟩ := z6 (hall 7 (by decide))
    rw [e6]
    have e8 := hS.val_at 8 rfl (by decide) (hall 8 (by decide))
    go_wp2_with fail
    go_meet
    exact ⟨_, A6, B6, c6, d6, rfl, e8, (((hS.mem.addR k6).addR h6).addK b6).sub (by simp) (by simp)⟩
  case rest =>
    clear M
    obtain ⟨g13, A13, B13, c13, d13, rfl, rfl, M⟩ := hcut
    go_upto_region 13 with fail
    go_cut [15, 16] (fun s5 s6 wx => ∃ (g15 : Nat) (A15 B15 : Option Addr) (c15 d15 : Nat), s5 = .pointer (some ⟨g15, 0, none⟩) ∧ s6 = .int .i64 0 ∧ Mem w wx [(g15, 31, #[.bool t1, .slice A15 t2.length c15, .bool t3, .slice B15 t4.length d15]), (g13, 31, #[.bool p1, .slice A13 p2.length c13, .bool p3, .slice B13 p4.length d13]), (w.heap.size, 26, #[.bool n, .slice A xs.length c, .bool m, .slice B ys.length d])] [(A15, c15, t2), (B15, d15, t4), (A13, c13, p2), (B13, d13, p4), (B, d, ys), (A, c, xs)])
    case first =>
      refine region_st (n := 9) (frame := ?frame2) (fun j => [.val (.fix (.agg #[.bool p1, .slice A13 p2.length c13, .bool p3, .slice B13 p4.length d13])), .val (.rat ((sN 1)) ((sD 1)) (false) ([1])), .val (.re (t1, t2, t3, t4, 0)), .val (.re (t1, t2, t3, t4, 0)), .val (.rat (t1) (t2) (t3) (t4)), .val (.fix (.int .i64 0)), .cell 7 31 #[.bool false, .slice none 0 0, .bool false, .slice none 0 0] (.rat (t1) (t2) (t3) (t4)), .none, .val (.fix (.int .i64 0))].getD j .none) [] (by kernel_rfl) (by kernel_rfl) (by kernel_rfl) rfl M (fun _ h => by cases h) (fun _ h => by cases h) ?_ ?_ ?_
      case refine_1 =>
        intro s
        simp only [fr, Act.put, List.append_eq, List.cons_append, List.nil_append, List.setIfInBounds_toArray, List.set_cons_zero, List.set_cons_succ, Nat.reduceAdd]
        rfl
      case refine_2 =>
        refine Steps.cons 0 (j := 1) rfl ?_ (Steps.cons 1 (j := 2) rfl ?_ (Steps.cons 2 (j := 3) rfl ?_ (Steps.cons 3 (j := 4) rfl ?_ (Steps.cons 4 (j := 5) rfl ?_ (Steps.cons 5 (j := 6) rfl ?_ (Steps.cons 6 (j := 7) rfl ?_ (Steps.cons 7 (j := 8) rfl ?_ (Steps.cons 8 (j := 9) rfl ?_ Steps.nil))))))))
        · intro L s w9 hN hU hi hS K hK
          dsimp only at hK ⊢
          simp only [Act.put, List.setIfInBounds_toArray, List.set_cons_zero, List.set_cons_succ] at hK
          obtain ⟨u1, u2, u3, u4⟩ := (hS.mem.k (i := 0) rfl).four
          go_simp
          exact hK.out _ _ (hS.val rfl rfl (Below.refl _ _) rfl)
        · intro L s w9 hN hU hi hS K hK
          dsimp only at hK ⊢
          simp only [Act.put, List.setIfInBounds_toArray, List.set_cons_zero, List.set_cons_succ] at hK
          go_simp
          go_at_call 21
          refine (qof_any 1 _ (by decide) (by decide)).mono ?_
          rintro e9 w10 ⟨⟨A0, c0, B0, d0, rfl, h0, k0⟩, q⟩
          exact hK.out _ _ (hS.val rfl rfl q ⟨A0, c0, B0, d0, rfl, h0, k0⟩)
        · intro L s w9 hN hU hi hS K hK
          dsimp only at hK ⊢
          simp only [Act.put, List.setIfInBounds_toArray, List.set_cons_zero, List.set_cons_succ] at hK
          have e0 : s 0 = .agg #[.bool p1, .slice A13 p2.length c13, .bool p3, .slice B13 p4.length d13] := hS.val_at 0 rfl (by decide) (hN.out 0 rfl)
          simp only [e0] at hK ⊢
          obtain ⟨A1, c1, B1, d1, e1, h1, k1⟩ := hS.val_at 1 rfl (by decide) (hN.out 1 rfl)
          simp only [e1] at hK ⊢
          go_simp
          go_at_call 35
          refine (qadd_eq H7.out (hS.mem.r (i := 0) rfl) (hS.mem.r (i := 1) rfl) h1 k1).mono ?_
          rintro e9 w10 ⟨⟨A0, c0, B0, d0, rfl, h0, k0⟩, q⟩
          exact hK.out _ _ (hS.val rfl rfl q ⟨A0, c0, B0, d0, rfl, h0, k0⟩)
        · intro L s w9 hN hU hi hS K hK
          dsimp only at hK ⊢
          simp only [Act.put, List.setIfInBounds_toArray, List.set_cons_zero, List.set_cons_succ] at hK
          obtain ⟨A2, c2, B2, d2, e2, h2, k2⟩ := hS.val_at 2 rfl (by decide) (hN.out 2 rfl)
          simp only [e2] at hK ⊢
          go_simp
          exact hK.out _ _ (hS.val rfl rfl (Below.refl _ _) ⟨A2, c2, B2, d2, rfl, h2, k2⟩)
        · intro L s w9 hN hU hi hS K hK
          dsimp only at hK ⊢
          simp only [Act.put, List.setIfInBounds_toArray, List.set_cons_zero, List.set_cons_succ] at hK
          obtain ⟨A3, c3, B3, d3, e3, h3, k3⟩ := hS.val_at 3 rfl (by decide) (hN.out 3 rfl)
          simp only [e3] at hK ⊢
          go_simp
          exact hK.out _ _ (hS.val rfl rfl (Below.refl _ _) ⟨A3, c3, B3, d3, rfl, h3, k3⟩)
        · intro L s w9 hN hU hi hS K hK
          dsimp only at hK ⊢
          simp only [Act.put, List.setIfInBounds_toArray, List.set_cons_zero, List.set_cons_succ] at hK
          obtain ⟨A3, c3, B3, d3, e3, h3, k3⟩ := hS.val_at 3 rfl (by decide) (hN.out 3 rfl)
          simp only [e3] at hK ⊢
          go_simp
          exact hK.out _ _ (hS.val rfl rfl (Below.refl _ _) rfl)
        · intro L s w9 hN hU hi hS K hK
          dsimp only at hK ⊢
          simp only [Act.put, List.setIfInBounds_toArray, List.set_cons_zero, List.set_cons_succ] at hK
          go_simp
          exact hK.out _ _ (hS.new rfl rfl hi.out (fun _ => hU.out 7 _ rfl rfl) rfl)
        · intro L s w9 hN hU hi hS K hK
          dsimp only at hK ⊢
          simp only [Act.put, List.setIfInBounds_toArray, List.set_cons_zero, List.set_cons_succ] at hK
          obtain ⟨A4, c4, B4, d4, e4, h4, k4⟩ := hS.val_at 4 rfl (by decide) (hN.out 4 rfl)
          simp only [e4] at hK ⊢
          obtain ⟨g9, cs9, e9, l9, b9, n9, z9, _⟩ := hS.cell_at 6 rfl (by decide) (hN.out 6 rfl)
          obtain rfl := z9 hi.out
          simp only [e9] at hK ⊢
          refine ite_of rfl ?_
          refine wp_store_row _ _ _ rfl g9 _ rfl rfl _ _ b9 info_rat rfl (by rw [← Array.all_toList]; rfl) ?_
          simp only [Act.put]
          exact hK.out undef _ (hS.fill (u := undef) (c := .rat (t1) (t2) (t3) (t4)) rfl rfl (by decide) rfl (hN.out 6 rfl) hi.out e9 (setRow_grown _ _ _) (b9.row _) rfl ⟨A4, c4, B4, d4, rfl, h4, k4⟩)
        · intro L s w9 hN hU hi hS K hK
          dsimp only at hK ⊢
          simp only [Act.put, List.setIfInBounds_toArray, List.set_cons_zero, List.set_cons_succ] at hK
          have e5 : s 5 = .int .i64 0 := hS.val_at 5 rfl (by decide) (hN.out 5 rfl)
          simp only [e5] at hK ⊢
          go_simp
          exact hK.out _ _ (hS.val rfl rfl (Below.refl _ _) rfl)
      intro L s w9 hall hS
      obtain ⟨g6, cs6, e6, l6, b6, n6, _, z6⟩ := hS.cell_at 6 rfl (by decide) (hall 6 (by decide))
      obtain ⟨A6, c6, B6, d6, rfl, h6, k6⟩ := z6 (hall 7 (by decide))
      rw [e6]
      have e8 := hS.val_at 8 rfl (by decide) (hall 8 (by decide))
      go_wp2_with fail
      go_meet
      exact ⟨_, A6, B6, c6, d6, rfl, e8, ((hS.mem.addR k6).addR h6).addK b6⟩
    case rest =>
      clear M
      obtain ⟨g15, A15, B15, c15, d15, rfl, rfl, M⟩ := hcut
      go_upto_region 14 with fail
      go_cut [17, 18] (fun s5 s6 wx => s5 = .int .i64 x ∧ s6 = .int .i64 0 ∧ Mem w wx [(g15, 31, #[.bool t1, .slice A15 t2.length c15, .bool t3, .slice B15 t4.length d15]), (g13, 31, #[.bool p1, .slice A13 p2.length c13, .bool p3, .slice B13 p4.length d13]), (w.heap.size, 26, #[.bool n, .slice A xs.length c, .bool m, .slice B ys.length d])] [(A15, c15, t2), (B15, d15, t4), (A13, c13, p2), (B13, d13, p4), (B, d, ys), (A, c, xs)])
      case first =>
        refine region_st (n := 9) (frame := ?frame3) (fun j => [.val (.fix (.agg #[.bool p1, .slice A13 p2.length c13, .bool p3, .slice B13 p4.length d13])), .val (.fix (.agg #[.bool n, .slice A xs.length c, .bool m, .slice B ys.length d])), .val (.fix (rv n A xs.length c m B ys.length d)), .val (.fix (.tuple #[.int .i64 x, .int .i64 0])), .val (.fix (.tuple #[.int .i64 x, .int .i64 0])), .val (.fix (.int .i64 x)), .val (.fix (.int .i64 0)), .val (.fix (.int .i64 x)), .val (.fix (.int .i64 0))].getD j .none) [] (by kernel_rfl) (by kernel_rfl) (by kernel_rfl) rfl M (fun _ h => by cases h) (fun _ h => by cases h) ?_ ?_ ?_
        case refine_1 =>
          intro s
          simp only [fr, Act.put, List.append_eq, List.cons_append, List.nil_append, List.setIfInBounds_toArray, List.set_cons_zero, List.set_cons_succ, Nat.reduceAdd]
          rfl
        case refine_2 =>
          refine Steps.cons 0 (j := 1) rfl ?_ (Steps.cons 1 (j := 2) rfl ?_ (Steps.cons 2 (j := 3) rfl ?_ (Steps.cons 3 (j := 4) rfl ?_ (Steps.cons 4 (j := 5) rfl ?_ (Steps.cons 5 (j := 6) rfl ?_ (Steps.cons 6 (j := 7) rfl ?_ (Steps.cons 7 (j := 8) rfl ?_ (Steps.cons 8 (j := 9) rfl ?_ Steps.nil))))))))
          · intro L s w9 hN hU hi hS K hK
            dsimp only at hK ⊢
            simp only [Act.put, List.setIfInBounds_toArray, List.set_cons_zero, List.set_cons_succ] at hK
            obtain ⟨u1, u2, u3, u4⟩ := (hS.mem.k (i := 1) rfl).four
            go_simp
            exact hK.out _ _ (hS.val rfl (noStore_of rfl) (Below.refl _ _) rfl)
          · intro L s w9 hN hU hi hS K hK
            dsimp only at hK ⊢
            simp only [Act.put, List.setIfInBounds_toArray, List.set_cons_zero, List.set_cons_succ] at hK
            obtain ⟨u1, u2, u3, u4⟩ := (hS.mem.k (i := 2) rfl).four
            go_simp
            exact hK.out _ _ (hS.val rfl (noStore_of rfl) (Below.refl _ _) rfl)
          · intro L s w9 hN hU hi hS K hK
            dsimp only at hK ⊢
            simp only [Act.put, List.setIfInBounds_toArray, List.set_cons_zero, List.set_cons_succ] at hK
            have e1 : s 1 = .agg #[.bool n, .slice A xs.length c, .bool m, .slice B ys.length d] := hS.val_at 1 rfl (by decide) (hN.out 1 rfl)
            simp only [e1] at hK ⊢
            go_simp
            go_at_call 17
            refine (theirs4_any _ _ _ _ _ _ _ _ _).mono ?_
            rintro e9 w10 ⟨rfl, q⟩
            exact hK.out _ _ (hS.val rfl (noStore_of rfl) q rfl)
          · intro L s w9 hN hU hi hS K hK
            dsimp only at hK ⊢
            simp only [Act.put, List.setIfInBounds_toArray, List.set_cons_zero, List.set_cons_succ] at hK
            have e0 : s 0 = .agg #[.bool p1, .slice A13 p2.length c13, .bool p3, .slice B13 p4.length d13] := hS.val_at 0 rfl (by decide) (hN.out 0 rfl)
            simp only [e0] at hK ⊢
            have e2 : s 2 = rv n A xs.length c m B ys.length d := hS.val_at 2 rfl (by decide) (hN.out 2 rfl)
            simp only [e2] at hK ⊢
            go_simp
            go_at_call 38
            refine (qcmp_eq H8.out (hS.mem.r (i := 2) rfl) (hS.mem.r (i := 3) rfl) (hS.mem.r (i := 5) rfl) (hS.mem.r (i := 4) rfl)).mono ?_
            rintro e9 w10 ⟨rfl, q⟩
            exact hK.out _ _ (hS.val rfl (noStore_of rfl) q rfl)
          · intro L s w9 hN hU hi hS K hK
            dsimp only at hK ⊢
            simp only [Act.put, List.setIfInBounds_toArray, List.set_cons_zero, List.set_cons_succ] at hK
            have e3 : s 3 = .tuple #[.int .i64 x, .int .i64 0] := hS.val_at 3 rfl (by decide) (hN.out 3 rfl)
            simp only [e3] at hK ⊢
            go_simp
            exact hK.out _ _ (hS.val rfl (noStore_of rfl) (Below.refl _ _) rfl)
          · intro L s w9 hN hU hi hS K hK
            dsimp only at hK ⊢
            simp only [Act.put, List.setIfInBounds_toArray, List.set_cons_zero, List.set_cons_succ] at hK
            have e4 : s 4 = .tuple #[.int .i64 x, .int .i64 0] := hS.val_at 4 rfl (by decide) (hN.out 4 rfl)
            simp only [e4] at hK ⊢
            go_simp
            exact hK.out _ _ (hS.val rfl (noStore_of rfl) (Below.refl _ _) rfl)
          · intro L s w9 hN hU hi hS K hK
            dsimp only at hK ⊢
            simp only [Act.put, List.setIfInBounds_toArray, List.set_cons_zero, List.set_cons_succ] at hK
            have e4 : s 4 = .tuple #[.int .i64 x, .int .i64 0] := hS.val_at 4 rfl (by decide) (hN.out 4 rfl)
            simp only [e4] at hK ⊢
            go_simp
            exact hK.out _ _ (hS.val rfl (noStore_of rfl) (Below.refl _ _) rfl)
          · intro L s w9 hN hU hi hS K hK
            dsimp only at hK ⊢
            simp only [Act.put, List.setIfInBounds_toArray, List.set_cons_zero, List.set_cons_succ] at hK
            have e5 : s 5 = .int .i64 x := hS.val_at 5 rfl (by decide) (hN.out 5 rfl)
            simp only [e5] at hK ⊢
            go_simp
            exact hK.out _ _ (hS.val rfl (noStore_of rfl) (Below.refl _ _) rfl)
          · intro L s w9 hN hU hi hS K hK
            dsimp only at hK ⊢
            simp only [Act.put, List.setIfInBounds_toArray, List.set_cons_zero, List.set_cons_succ] at hK
            have e6 : s 6 = .int .i64 0 := hS.val_at 6 rfl (by decide) (hN.out 6 rfl)
            simp only [e6] at hK ⊢
            go_simp
            exact hK.out _ _ (hS.val rfl (noStore_of rfl) (Below.refl _ _) rfl)
        intro L s w9 hall hS
        have e7 := hS.val_at 7 rfl (by decide) (hall 7 (by decide))
        have e8 := hS.val_at 8 rfl (by decide) (hall 8 (by decide))
        go_wp2_with fail
        go_meet
        exact ⟨e7, e8, hS.mem⟩
      case rest =>
        clear M
        obtain ⟨rfl, rfl, M⟩ := hcut
        go_upto_region 15 with fail
        go_cut [19, 20] (fun s5 s6 wx => s5 = .int .i64 (-1) ∧ s6 = .int .i64 0 ∧ Below w.heap.size w wx)
        case first =>
          refine region_st (n := 9) (frame := ?frame4) (fun j => [.val (.fix (.agg #[.bool n, .slice A xs.length c, .bool m, .slice B ys.length d])), .val (.fix (rv n A xs.length c m B ys.length d)), .val (.fix (.agg #[.bool t1, .slice A15 t2.length c15, .bool t3, .slice B15 t4.length d15])), .val (.fix (.tuple #[.int .i64 (-1), .int .i64 0])), .val (.fix (.tuple #[.int .i64 (-1), .int .i64 0])), .val (.fix (.int .i64 (-1))), .val (.fix (.int .i64 0)), .val (.fix (.int .i64 (-1))), .val (.fix (.int .i64 0))].getD j .none) [] (by kernel_rfl) (by kernel_rfl) (by kernel_rfl) rfl M (fun _ h => by cases h) (fun _ h => by cases h) ?_ ?_ ?_
          case refine_1 =>
            intro s
            simp only [fr, Act.put, List.append_eq, List.cons_append, List.nil_append, List.setIfInBounds_toArray, List.set_cons_zero, List.set_cons_succ, Nat.reduceAdd]
            rfl
          case refine_2 =>
            refine Steps.cons 0 (j := 1) rfl ?_ (Steps.cons 1 (j := 2) rfl ?_ (Steps.cons 2 (j := 3) rfl ?_ (Steps.cons 3 (j := 4) rfl ?_ (Steps.cons 4 (j := 5) rfl ?_ (Steps.cons 5 (j := 6) rfl ?_ (Steps.cons 6 (j := 7) rfl ?_ (Steps.cons 7 (j := 8) rfl ?_ (Steps.cons 8 (j := 9) rfl ?_ Steps.nil))))))))
            · intro L s w9 hN hU hi hS K hK
              dsimp only at hK ⊢
              simp only [Act.put, List.setIfInBounds_toArray, List.set_cons_zero, List.set_cons_succ] at hK
              obtain ⟨u1, u2, u3, u4⟩ := (hS.mem.k (i := 2) rfl).four
              go_simp
              exact hK.out _ _ (hS.val rfl (noStore_of rfl) (Below.refl _ _) rfl)
            · intro L s w9 hN hU hi hS K hK
              dsimp only at hK ⊢
              simp only [Act.put, List.setIfInBounds_toArray, List.set_cons_zero, List.set_cons_succ] at hK
              have e0 : s 0 = .agg #[.bool n, .slice A xs.length c, .bool m, .slice B ys.length d] := hS.val_at 0 rfl (by decide) (hN.out 0 rfl)
              simp only [e0] at hK ⊢
              go_simp
              go_at_call 17
              refine (theirs4_any _ _ _ _ _ _ _ _ _).mono ?_
              rintro e9 w10 ⟨rfl, q⟩
              exact hK.out _ _ (hS.val rfl (noStore_of rfl) q rfl)
            · intro L s w9 hN hU hi hS K hK
              dsimp only at hK ⊢
              simp only [Act.put, List.setIfInBounds_toArray, List.set_cons_zero, List.set_cons_succ] at hK
              obtain ⟨u1, u2, u3, u4⟩ := (hS.mem.k (i := 0) rfl).four
              go_simp
              exact hK.out _ _ (hS.val rfl (noStore_of rfl) (Below.refl _ _) rfl)
            · intro L s w9 hN hU hi hS K hK
              dsimp only at hK ⊢
              simp only [Act.put, List.setIfInBounds_toArray, List.set_cons_zero, List.set_cons_succ] at hK
              have e1 : s 1 = rv n A xs.length c m B ys.length d := hS.val_at 1 rfl (by decide) (hN.out 1 rfl)
              simp only [e1] at hK ⊢
              have e2 : s 2 = .agg #[.bool t1, .slice A15 t2.length c15, .bool t3, .slice B15 t4.length d15] := hS.val_at 2 rfl (by decide) (hN.out 2 rfl)
              simp only [e2] at hK ⊢
              go_simp
              go_at_call 38
              refine (qcmp_eq H9.out (hS.mem.r (i := 5) rfl) (hS.mem.r (i := 4) rfl) (hS.mem.r (i := 0) rfl) (hS.mem.r (i := 1) rfl)).mono ?_
              rintro e9 w10 ⟨rfl, q⟩
              exact hK.out _ _ (hS.val rfl (noStore_of rfl) q rfl)
            · intro L s w9 hN hU hi hS K hK
              dsimp only at hK ⊢
              simp only [Act.put, List.setIfInBounds_toArray, List.set_cons_zero, List.set_cons_succ] at hK
              have e3 : s 3 = .tuple #[.int .i64 (-1), .int .i64 0] := hS.val_at 3 rfl (by decide) (hN.out 3 rfl)
              simp only [e3] at hK ⊢
              go_simp
              exact hK.out _ _ (hS.val rfl (noStore_of rfl) (Below.refl _ _) rfl)
            · intro L s w9 hN hU hi hS K hK
              dsimp only at hK ⊢
              simp only [Act.put, List.setIfInBounds_toArray, List.set_cons_zero, List.set_cons_succ] at hK
              have e4 : s 4 = .tuple #[.int .i64 (-1), .int .i64 0] := hS.val_at 4 rfl (by decide) (hN.out 4 rfl)
              simp only [e4] at hK ⊢
              go_simp
              exact hK.out _ _ (hS.val rfl (noStore_of rfl) (Below.refl _ _) rfl)
            · intro L s w9 hN hU hi hS K hK
              dsimp only at hK ⊢
              simp only [Act.put, List.setIfInBounds_toArray, List.set_cons_zero, List.set_cons_succ] at hK
              have e4 : s 4 = .tuple #[.int .i64 (-1), .int .i64 0] := hS.val_at 4 rfl (by decide) (hN.out 4 rfl)
              simp only [e4] at hK ⊢
              go_simp
              exact hK.out _ _ (hS.val rfl (noStore_of rfl) (Below.refl _ _) rfl)
            · intro L s w9 hN hU hi hS K hK
              dsimp only at hK ⊢
              simp only [Act.put, List.setIfInBounds_toArray, List.set_cons_zero, List.set_cons_succ] at hK
              have e5 : s 5 = .int .i64 (-1) := hS.val_at 5 rfl (by decide) (hN.out 5 rfl)
              simp only [e5] at hK ⊢
              go_simp
              exact hK.out _ _ (hS.val rfl (noStore_of rfl) (Below.refl _ _) rfl)
            · intro L s w9 hN hU hi hS K hK
              dsimp only at hK ⊢
              simp only [Act.put, List.setIfInBounds_toArray, List.set_cons_zero, List.set_cons_succ] at hK
              have e6 : s 6 = .int .i64 0 := hS.val_at 6 rfl (by decide) (hN.out 6 rfl)
              simp only [e6] at hK ⊢
              go_simp
              exact hK.out _ _ (hS.val rfl (noStore_of rfl) (Below.refl _ _) rfl)
          intro L s w9 hall hS
          have e7 := hS.val_at 7 rfl (by decide) (hall 7 (by decide))
          have e8 := hS.val_at 8 rfl (by decide) (hall 8 (by decide))
          go_wp2_with fail
          go_meet
          exact ⟨e7, e8, hS.mem.bel⟩
        case rest =>
          clear M
          obtain ⟨rfl, rfl, hbel⟩ := hcut
          rcases X.out with rfl | rfl
          all_goals
            go_wp2
            go_ret
            exact ⟨rfl, hbel⟩
end Go.Proofs.Ytdhikpfppbcjkaa

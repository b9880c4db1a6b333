/-
  SignedLaws: its closures, the plain laws, and its walk.
-/
import Derived.Test.YtmhjjjffgpdolaaLsH
set_option linter.unusedSimpArgs false
set_option linter.unusedVariables false
namespace Go.Proofs.Ytmhjjjffgpdolaa
open Go.RowKit Num

theorem sD_add {a b : Int} {k : Nat} (ha : (sD a).length ≤ k) (hb : (sD b).length ≤ k) : (sD (a + b)).length ≤ k + 1 := by
  have la := sD_lt ha
  have lb := sD_lt hb
  refine sD_small ?_
  rw [Nat.pow_succ]
  generalize (4294967296 : Nat) ^ k = K at *
  omega
theorem sD_mul {a b : Int} {k l : Nat} (ha : (sD a).length ≤ k) (hb : (sD b).length ≤ l) : (sD (a * b)).length ≤ k + l := by
  have la := sD_lt ha
  have lb := sD_lt hb
  refine sD_small ?_
  rw [Nat.pow_add, Int.natAbs_mul]
  exact Nat.mul_lt_mul_of_lt_of_le (Nat.lt_of_lt_of_le la (Nat.le_refl _)) (Nat.le_of_lt lb) (Nat.lt_of_le_of_lt (Nat.zero_le _) lb)
theorem sneg_eq' {n : Bool} {A : Option Addr} {c : Nat} {xs : List Nat} {w : World} {r : R3} (h : snegR n xs = r) (ha : Rd w A c xs) : Calls Try.prog 34 #[iv n A xs.length c] w fun e w' => RetI w w' e r := by
  subst h
  exact sneg_any n A c xs w ha
theorem sneg_sd {a : Int} (ha : (sD a).length ≤ 256) : snegR (sN a) (sD a) = (sN (-a), sD (-a), 0) := by
  unfold snegR
  rw [if_pos (sright_sd ha), sv_sd]
  rfl
/-- All that the law asks of three numbers. -/
theorem laws_of {n m l : Bool} {xs ys zs : List Nat} (ox : Ok xs) (oy : Ok ys) (oz : Ok zs) (r1 : sright n xs = true) (r2 : sright m ys = true) (r3 : sright l zs = true) (h1 : xs.length ≤ 30) (h2 : ys.length ≤ 30) (h3 : zs.length ≤ 30) :
    ∃ (nn : Bool) (nd : List Nat) (sn : Bool) (sd : List Nat) (pn : Bool) (pd : List Nat) (un : Bool) (ud : List Nat) (tn : Bool) (td : List Nat) (rn : Bool) (rd : List Nat) (vn : Bool) (vd : List Nat) (kn : Bool) (kd : List Nat) (gn : Bool) (gd : List Nat),
      snegR n xs = (nn, nd, 0) ∧ saddR n xs nn nd = (false, [], 0) ∧ saddR n xs m ys = (sn, sd, 0) ∧ saddR m ys n xs = (sn, sd, 0) ∧ smulR n xs m ys = (pn, pd, 0) ∧ smulR m ys n xs = (pn, pd, 0) ∧
      saddR sn sd l zs = (tn, td, 0) ∧ saddR m ys l zs = (un, ud, 0) ∧ saddR n xs un ud = (tn, td, 0) ∧ smulR pn pd l zs = (vn, vd, 0) ∧ smulR m ys l zs = (rn, rd, 0) ∧ smulR n xs rn rd = (vn, vd, 0) ∧
      smulR sn sd l zs = (gn, gd, 0) ∧ smulR n xs l zs = (kn, kd, 0) ∧ saddR kn kd rn rd = (gn, gd, 0) ∧ sright sn sd = true ∧ sright pn pd = true ∧ sright tn td = true ∧ sright vn vd = true ∧ sright gn gd = true ∧
      sd.length ≤ 256 ∧ pd.length ≤ 256 ∧ td.length ≤ 256 ∧ vd.length ≤ 256 ∧ gd.length ≤ 256 := by
  obtain ⟨a, rfl, rfl⟩ := sd_of ox r1
  obtain ⟨b, rfl, rfl⟩ := sd_of oy r2
  obtain ⟨c, rfl, rfl⟩ := sd_of oz r3
  have ln : (sD (-a)).length ≤ 30 := by rw [sD_neg]; exact h1
  have ls := sD_add h1 h2
  have lu := sD_add h2 h3
  have lp := sD_mul h1 h2
  have lr := sD_mul h2 h3
  have lk := sD_mul h1 h3
  have lt : (sD (a + b + c)).length ≤ 32 := sD_add ls (Nat.le_trans h3 (by decide))
  have lv : (sD (a * b * c)).length ≤ 90 := sD_mul lp h3
  have lg : (sD ((a + b) * c)).length ≤ 61 := sD_mul ls h3
  have e1 := sadd_sd (a := a) (b := -a) (by omega) (by omega) (by rw [Int.add_right_neg]; exact Nat.zero_le _)
  rw [Int.add_right_neg] at e1
  have e2 := sadd_sd (a := b) (b := a) (by omega) (by omega) (by rw [Int.add_comm]; omega)
  rw [Int.add_comm b a] at e2
  have e3 := smul_sd (a := b) (b := a) (by omega) (by omega) (by rw [Int.mul_comm]; omega)
  rw [Int.mul_comm b a] at e3
  have e4 := sadd_sd (a := a) (b := b + c) (by omega) (by omega) (by rw [← Int.add_assoc]; omega)
  rw [← Int.add_assoc] at e4
  have e5 := smul_sd (a := a) (b := b * c) (by omega) (by omega) (by rw [← Int.mul_assoc]; omega)
  rw [← Int.mul_assoc] at e5
  have e6 := sadd_sd (a := a * c) (b := b * c) (by omega) (by omega) (by rw [← Int.add_mul]; omega)
  rw [← Int.add_mul] at e6
  exact ⟨_, _, _, _, _, _, _, _, _, _, _, _, _, _, _, _, _, _, sneg_sd (by omega), e1, sadd_sd (by omega) (by omega) (by omega), e2, smul_sd (by omega) (by omega) (by omega), e3,
    sadd_sd (by omega) (by omega) (by omega), sadd_sd (by omega) (by omega) (by omega), e4, smul_sd (by omega) (by omega) (by omega), smul_sd (by omega) (by omega) (by omega), e5,
    smul_sd (by omega) (by omega) (by omega), smul_sd (by omega) (by omega) (by omega), e6, sright_sd (by omega), sright_sd (by omega), sright_sd (by omega), sright_sd (by omega), sright_sd (by omega), by omega, by omega, by omega, by omega, by omega⟩

set_option maxRecDepth 100000 in
theorem addL {n m : Bool} {A B : Option Addr} {c d : Nat} {xs ys : List Nat} {w : World} {r : Bool} {zs : List Nat} (h : saddR n xs m ys = (r, zs, 0)) (ha : Rd w A c xs) (hb : Rd w B d ys) :
    Calls Try.prog 36 #[iv n A xs.length c, iv m B ys.length d] w fun e w' => RetN w w' e (r, zs) := by
  have H := Lib.hid h
  have M : Mem w (((w.alloc (.cells #[.bool n, .slice A xs.length c] 27)).alloc (.cells #[.bool m, .slice B ys.length d] 27)).alloc (.cells #[.bool false, .slice none 0 0] 27)) [(w.heap.size + 1 + 1, 27, #[.bool false, .slice none 0 0]), (w.heap.size + 1, 27, #[.bool m, .slice B ys.length d]), (w.heap.size, 27, #[.bool n, .slice A xs.length c])] [(B, d, ys), (A, c, xs)] :=
    ((((((Mem.start w).addR ha).addR hb).new 27 #[.bool n, .slice A xs.length c]).newAt (by simp) 27 #[.bool m, .slice B ys.length d])).newAt (by simp) 27 #[.bool false, .slice none 0 0]
  clear h ha hb
  go_enter Try.func36, Try.ntmps36
  go_wp2_with fail
  refine (sadd_eq' H.out (M.r (i := 1) rfl) (M.r (i := 0) rfl)).mono ?_
  rintro e w2 ⟨⟨A2, c2, rfl, h⟩, q⟩
  replace M := (M.below q).addR h
  have hlt := (M.k (i := 0) rfl).lt
  obtain ⟨x1, x2, x3, x4⟩ := (M.k (i := 0) rfl).both
  have M2 := (M.put (by omega) (by simp <;> omega) r A2 zs.length c2).alloc (.cells #[.bool r, .slice A2 zs.length c2] 27)
  obtain ⟨y1, y2, _, _⟩ := (M2.k (i := 0) rfl).both
  go_wp2
  refine bodyPost_ret (v := iv r A2 zs.length c2) (by simp [results, Try.results36, go_sem, y1, y2]) rfl ⟨⟨A2, c2, rfl, M2.r (i := 0) rfl⟩, M2.bel⟩
set_option maxRecDepth 100000 in
theorem mulL {n m : Bool} {A B : Option Addr} {c d : Nat} {xs ys : List Nat} {w : World} {r : Bool} {zs : List Nat} (h : smulR n xs m ys = (r, zs, 0)) (ha : Rd w A c xs) (hb : Rd w B d ys) :
    Calls Try.prog 37 #[iv n A xs.length c, iv m B ys.length d] w fun e w' => RetN w w' e (r, zs) := by
  have H := Lib.hid h
  have M : Mem w (((w.alloc (.cells #[.bool n, .slice A xs.length c] 27)).alloc (.cells #[.bool m, .slice B ys.length d] 27)).alloc (.cells #[.bool false, .slice none 0 0] 27)) [(w.heap.size + 1 + 1, 27, #[.bool false, .slice none 0 0]), (w.heap.size + 1, 27, #[.bool m, .slice B ys.length d]), (w.heap.size, 27, #[.bool n, .slice A xs.length c])] [(B, d, ys), (A, c, xs)] :=
    ((((((Mem.start w).addR ha).addR hb).new 27 #[.bool n, .slice A xs.length c]).newAt (by simp) 27 #[.bool m, .slice B ys.length d])).newAt (by simp) 27 #[.bool false, .slice none 0 0]
  clear h ha hb
  go_enter Try.func37, Try.ntmps37
  go_wp2_with fail
  refine (smul_eq' H.out (M.r (i := 1) rfl) (M.r (i := 0) rfl)).mono ?_
  rintro e w2 ⟨⟨A2, c2, rfl, h⟩, q⟩
  replace M := (M.below q).addR h
  have hlt := (M.k (i := 0) rfl).lt
  obtain ⟨x1, x2, x3, x4⟩ := (M.k (i := 0) rfl).both
  have M2 := (M.put (by omega) (by simp <;> omega) r A2 zs.length c2).alloc (.cells #[.bool r, .slice A2 zs.length c2] 27)
  obtain ⟨y1, y2, _, _⟩ := (M2.k (i := 0) rfl).both
  go_wp2
  refine bodyPost_ret (v := iv r A2 zs.length c2) (by simp [results, Try.results37, go_sem, y1, y2]) rfl ⟨⟨A2, c2, rfl, M2.r (i := 0) rfl⟩, M2.bel⟩
set_option maxRecDepth 100000 in
set_option maxHeartbeats 1000000 in
theorem sameL {n : Bool} {A B : Option Addr} {c d : Nat} {xs : List Nat} {w : World} (h : sright n xs = true) (hl : xs.length ≤ 256) (ha : Rd w A c xs) (hb : Rd w B d xs) :
    Calls Try.prog 38 #[iv n A xs.length c, iv n B xs.length d] w fun e w' => e = .returned (.bool true) ∧ Below w.heap.size w w' := by
  have HR := Lib.hid h
  have HL : Hid (xs.length ≤ 1000000) := Nat.le_trans hl (by decide)
  have M : Mem w ((w.alloc (.cells #[.bool n, .slice A xs.length c] 27)).alloc (.cells #[.bool n, .slice B xs.length d] 27)) [(w.heap.size + 1, 27, #[.bool n, .slice B xs.length d]), (w.heap.size, 27, #[.bool n, .slice A xs.length c])] [(B, d, xs), (A, c, xs)] :=
    (((((Mem.start w).addR ha).addR hb).new 27 #[.bool n, .slice A xs.length c]).newAt (by simp) 27 #[.bool n, .slice B xs.length d])
  clear h ha hb
  go_enter Try.func38, Try.ntmps38
  go_upto_region 1 with fail
  refine region_st (n := 10) (frame := ?frame1) (fun j => [.val (.fix (iv n A xs.length c)), .val (.fix (iv n A xs.length c)), .val (.fix (iv n B xs.length d)), .val (.fix (iv n B xs.length d)), .val (.fix (.bool true)), .val (.fix (.bool true)), .val (.fix (iv n A xs.length c)), .val (.fix (.bool true)), .val (.fix (.bool true)), .val (.fix (.bool true))].getD j .none) [] (by kernel_rfl) (by kernel_rfl) (by kernel_rfl) rfl M (fun _ h => by cases h) (fun _ h => by cases h) ?_ ?_ ?_
  case refine_1 =>
    intro s
    simp only [fr, Act.put, List.append_eq, List.cons_append, List.nil_append, List.setIfInBounds_toArray, List.set_cons_zero, List.set_cons_succ, Nat.reduceAdd]
    rfl
  case refine_2 =>
    refine Steps.cons 0 (j := 1) rfl ?_ (Steps.cons 1 (j := 2) rfl ?_ (Steps.cons 2 (j := 3) rfl ?_ (Steps.cons 3 (j := 4) rfl ?_ (Steps.cons 4 (j := 5) rfl ?_ (Steps.cons 5 (j := 6) rfl ?_ (Steps.cons 6 (j := 7) rfl ?_ (Steps.cons 7 (j := 8) rfl ?_ (Steps.cons 8 (j := 9) rfl ?_ (Steps.cons 9 (j := 10) rfl ?_ Steps.nil)))))))))
    · intro L s w9 hN hU hi hS K hK
      dsimp only at hK ⊢
      simp only [Act.put, List.setIfInBounds_toArray, List.set_cons_zero, List.set_cons_succ] at hK
      obtain ⟨u1, u2, _, _⟩ := (hS.mem.k (i := 1) rfl).both
      go_simp
      exact hK.out _ _ (hS.val rfl (noStore_of rfl) (Below.refl _ _) rfl)
    · intro L s w9 hN hU hi hS K hK
      dsimp only at hK ⊢
      simp only [Act.put, List.setIfInBounds_toArray, List.set_cons_zero, List.set_cons_succ] at hK
      have e0 : s 0 = iv n A xs.length c := hS.val_at 0 rfl (by decide) (hN.out 0 rfl)
      simp only [e0] at hK ⊢
      go_simp
      go_at_call 19
      refine (ours_any _ _ _ _ _).mono ?_
      rintro e9 w10 ⟨rfl, q⟩
      exact hK.out _ _ (hS.val rfl (noStore_of rfl) q rfl)
    · intro L s w9 hN hU hi hS K hK
      dsimp only at hK ⊢
      simp only [Act.put, List.setIfInBounds_toArray, List.set_cons_zero, List.set_cons_succ] at hK
      obtain ⟨u1, u2, _, _⟩ := (hS.mem.k (i := 0) rfl).both
      go_simp
      exact hK.out _ _ (hS.val rfl (noStore_of rfl) (Below.refl _ _) rfl)
    · intro L s w9 hN hU hi hS K hK
      dsimp only at hK ⊢
      simp only [Act.put, List.setIfInBounds_toArray, List.set_cons_zero, List.set_cons_succ] at hK
      have e2 : s 2 = iv n B xs.length d := hS.val_at 2 rfl (by decide) (hN.out 2 rfl)
      simp only [e2] at hK ⊢
      go_simp
      go_at_call 19
      refine (ours_any _ _ _ _ _).mono ?_
      rintro e9 w10 ⟨rfl, q⟩
      exact hK.out _ _ (hS.val rfl (noStore_of rfl) q rfl)
    · intro L s w9 hN hU hi hS K hK
      dsimp only at hK ⊢
      simp only [Act.put, List.setIfInBounds_toArray, List.set_cons_zero, List.set_cons_succ] at hK
      have e1 : s 1 = iv n A xs.length c := hS.val_at 1 rfl (by decide) (hN.out 1 rfl)
      simp only [e1] at hK ⊢
      have e3 : s 3 = iv n B xs.length d := hS.val_at 3 rfl (by decide) (hN.out 3 rfl)
      simp only [e3] at hK ⊢
      go_simp
      go_at_call 18
      refine (rsame_self (hS.mem.r (i := 1) rfl) (hS.mem.r (i := 0) rfl) HL.out).mono ?_
      rintro e9 w10 ⟨rfl, q⟩
      exact hK.out _ _ (hS.val rfl (noStore_of rfl) q rfl)
    · intro L s w9 hN hU hi hS K hK
      dsimp only at hK ⊢
      simp only [Act.put, List.setIfInBounds_toArray, List.set_cons_zero, List.set_cons_succ] at hK
      have e4 : s 4 = .bool true := hS.val_at 4 rfl (by decide) (hN.out 4 rfl)
      simp only [e4] at hK ⊢
      go_simp
      exact hK.out _ _ (hS.val rfl (noStore_of rfl) (Below.refl _ _) rfl)
    · intro L s w9 hN hU hi hS K hK
      dsimp only at hK ⊢
      simp only [Act.put, List.setIfInBounds_toArray, List.set_cons_zero, List.set_cons_succ] at hK
      have e5 : s 5 = .bool true := hS.val_at 5 rfl (by decide) (hN.out 5 rfl)
      simp only [e5] at hK ⊢
      obtain ⟨u1, u2, _, _⟩ := (hS.mem.k (i := 1) rfl).both
      go_simp
      exact hK.out _ _ (hS.val rfl (noStore_of rfl) (Below.refl _ _) rfl)
    · intro L s w9 hN hU hi hS K hK
      dsimp only at hK ⊢
      simp only [Act.put, List.setIfInBounds_toArray, List.set_cons_zero, List.set_cons_succ] at hK
      have e6 : s 6 = iv n A xs.length c := hS.val_at 6 rfl (by decide) (hN.out 6 rfl)
      simp only [e6] at hK ⊢
      have e5 : s 5 = .bool true := hS.val_at 5 rfl (by decide) (hN.out 5 rfl)
      simp only [e5] at hK ⊢
      go_simp
      go_at_call 26
      refine (sright_sok (hS.mem.r (i := 1) rfl) HR.out).mono ?_
      rintro e9 w10 ⟨rfl, q⟩
      exact hK.out _ _ (hS.val rfl (noStore_of rfl) q rfl)
    · intro L s w9 hN hU hi hS K hK
      dsimp only at hK ⊢
      simp only [Act.put, List.setIfInBounds_toArray, List.set_cons_zero, List.set_cons_succ] at hK
      have e5 : s 5 = .bool true := hS.val_at 5 rfl (by decide) (hN.out 5 rfl)
      simp only [e5] at hK ⊢
      have e7 : s 7 = .bool true := hS.val_at 7 rfl (by decide) (hN.out 7 rfl)
      simp only [e7] at hK ⊢
      go_simp
      exact hK.out _ _ (hS.val rfl (noStore_of rfl) (Below.refl _ _) rfl)
    · intro L s w9 hN hU hi hS K hK
      dsimp only at hK ⊢
      simp only [Act.put, List.setIfInBounds_toArray, List.set_cons_zero, List.set_cons_succ] at hK
      have e8 : s 8 = .bool true := hS.val_at 8 rfl (by decide) (hN.out 8 rfl)
      simp only [e8] at hK ⊢
      go_simp
      exact hK.out _ _ (hS.val rfl (noStore_of rfl) (Below.refl _ _) rfl)
  intro L s w9 hall hS
  have e9 : s 9 = .bool true := hS.val_at 9 rfl (by decide) (hall 9 (by decide))
  rw [e9]
  go_wp2
  go_ret
  exact ⟨rfl, hS.mem.bel⟩

set_option maxRecDepth 100000 in
set_option maxHeartbeats 40000000 in
theorem signedLaws_use (w : World) (n : Bool) (A : Option Addr) (c : Nat) (xs : List Nat) (ha : Rd w A c xs) (m : Bool) (B : Option Addr) (d : Nat) (ys : List Nat) (hb : Rd w B d ys) (l : Bool) (D : Option Addr) (f : Nat) (zs : List Nat) (hd : Rd w D f zs) :
    Calls Try.prog 7 #[iv n A xs.length c, iv m B ys.length d, iv l D zs.length f] w fun e w' => e = .returned (.bool true) ∧ Below w.heap.size w w' := by
  have ox := ha.ok
  have oy := hb.ok
  have oz := hd.ok
  have M : Mem w (((w.alloc (.cells #[.bool n, .slice A xs.length c] 24)).alloc (.cells #[.bool m, .slice B ys.length d] 24)).alloc (.cells #[.bool l, .slice D zs.length f] 24)) [(w.heap.size + 1 + 1, 24, #[.bool l, .slice D zs.length f]), (w.heap.size + 1, 24, #[.bool m, .slice B ys.length d]), (w.heap.size, 24, #[.bool n, .slice A xs.length c])] [(D, f, zs), (B, d, ys), (A, c, xs)] :=
    (((((((Mem.start w).addR ha).addR hb).addR hd).new 24 #[.bool n, .slice A xs.length c]).newAt (by simp) 24 #[.bool m, .slice B ys.length d]).newAt (by simp) 24 #[.bool l, .slice D zs.length f])
  clear ha hb hd
  by_cases hf : xs.length ≤ 30 ∧ ys.length ≤ 30 ∧ zs.length ≤ 30
  case neg =>
    have HF : Hid (decide (xs.length ≤ 30 ∧ ys.length ≤ 30 ∧ zs.length ≤ 30) = false) := decide_eq_false hf
    clear hf
    go_enter Try.func7, Try.ntmps7
    go_wp2_with fail
    refine (salive_any _).mono ?_
    rintro e w1 ⟨rfl, q⟩
    replace M := M.below q
    clear q
    obtain ⟨v1, v2, _, _⟩ := (M.k (i := 2) rfl).both
    obtain ⟨v3, v4, _, _⟩ := (M.k (i := 1) rfl).both
    obtain ⟨v5, v6, _, _⟩ := (M.k (i := 0) rfl).both
    go_wp2_with fail
    refine (few3 rfl (M.r (i := 2) rfl) (M.r (i := 1) rfl) (M.r (i := 0) rfl)).mono ?_
    rw [HF.out]
    rintro e w2 ⟨rfl, q⟩
    replace M := M.below q
    clear q v1 v2 v3 v4 v5 v6
    go_wp2
    go_ret
    exact ⟨rfl, M.bel⟩
  have HF : Hid (decide (xs.length ≤ 30 ∧ ys.length ≤ 30 ∧ zs.length ≤ 30) = true) := decide_eq_true hf
  obtain ⟨hf1, hf2, hf3⟩ := hf
  rcases Bool.eq_false_or_eq_true (right3 n xs m ys l zs) with hr | hr
  case inr =>
    have HR := Lib.hid hr
    clear hr
    go_enter Try.func7, Try.ntmps7
    go_wp2_with fail
    refine (salive_any _).mono ?_
    rintro e w1 ⟨rfl, q⟩
    replace M := M.below q
    clear q
    obtain ⟨v1, v2, _, _⟩ := (M.k (i := 2) rfl).both
    obtain ⟨v3, v4, _, _⟩ := (M.k (i := 1) rfl).both
    obtain ⟨v5, v6, _, _⟩ := (M.k (i := 0) rfl).both
    go_wp2_with fail
    refine (few3 rfl (M.r (i := 2) rfl) (M.r (i := 1) rfl) (M.r (i := 0) rfl)).mono ?_
    rw [HF.out]
    rintro e w2 ⟨rfl, q⟩
    replace M := M.below q
    clear q v1 v2 v3 v4 v5 v6
    obtain ⟨v1, v2, _, _⟩ := (M.k (i := 2) rfl).both
    obtain ⟨v3, v4, _, _⟩ := (M.k (i := 1) rfl).both
    obtain ⟨v5, v6, _, _⟩ := (M.k (i := 0) rfl).both
    go_wp2_with fail
    refine (right3_any rfl (M.r (i := 2) rfl) (M.r (i := 1) rfl) (M.r (i := 0) rfl)).mono ?_
    rw [HR.out]
    rintro e w3 ⟨rfl, q⟩
    replace M := M.below q
    clear q v1 v2 v3 v4 v5 v6
    go_wp2
    go_ret
    exact ⟨rfl, M.bel⟩
  have HR := Lib.hid hr
  obtain ⟨r1, r2, r3⟩ : sright n xs = true ∧ sright m ys = true ∧ sright l zs = true := by unfold right3 at hr; simpa using hr
  clear hr
  obtain ⟨nn, nd, sn, sd, pn, pd, un, ud, tn, td, rn, rd, vn, vd, kn, kd, gn, gd, h01, h02, h03, h04, h05, h06, h07, h08, h09, h10, h11, h12, h13, h14, h15, q1, q2, q3, q4, q5, b1, b2, b3, b4, b5⟩ := laws_of ox oy oz r1 r2 r3 hf1 hf2 hf3
  have H01 := Lib.hid h01
  have H02 := Lib.hid h02
  have H03 := Lib.hid h03
  have H04 := Lib.hid h04
  have H05 := Lib.hid h05
  have H06 := Lib.hid h06
  have H07 := Lib.hid h07
  have H08 := Lib.hid h08
  have H09 := Lib.hid h09
  have H10 := Lib.hid h10
  have H11 := Lib.hid h11
  have H12 := Lib.hid h12
  have H13 := Lib.hid h13
  have H14 := Lib.hid h14
  have H15 := Lib.hid h15
  have Q1 := Lib.hid q1
  have L1 := Lib.hid b1
  have Q2 := Lib.hid q2
  have L2 := Lib.hid b2
  have Q3 := Lib.hid q3
  have L3 := Lib.hid b3
  have Q4 := Lib.hid q4
  have L4 := Lib.hid b4
  have Q5 := Lib.hid q5
  have L5 := Lib.hid b5
  clear r1 r2 r3 ox oy oz h01 h02 h03 h04 h05 h06 h07 h08 h09 h10 h11 h12 h13 h14 h15 q1 q2 q3 q4 q5 b1 b2 b3 b4 b5
  go_enter Try.func7, Try.ntmps7
  go_wp2_with fail
  refine (salive_any _).mono ?_
  rintro e w1 ⟨rfl, q⟩
  replace M := M.below q
  clear q
  obtain ⟨v1, v2, _, _⟩ := (M.k (i := 2) rfl).both
  obtain ⟨v3, v4, _, _⟩ := (M.k (i := 1) rfl).both
  obtain ⟨v5, v6, _, _⟩ := (M.k (i := 0) rfl).both
  go_wp2_with fail
  refine (few3 rfl (M.r (i := 2) rfl) (M.r (i := 1) rfl) (M.r (i := 0) rfl)).mono ?_
  rw [HF.out]
  rintro e w2 ⟨rfl, q⟩
  replace M := M.below q
  clear q v1 v2 v3 v4 v5 v6
  obtain ⟨v1, v2, _, _⟩ := (M.k (i := 2) rfl).both
  obtain ⟨v3, v4, _, _⟩ := (M.k (i := 1) rfl).both
  obtain ⟨v5, v6, _, _⟩ := (M.k (i := 0) rfl).both
  go_wp2_with fail
  refine (right3_any rfl (M.r (i := 2) rfl) (M.r (i := 1) rfl) (M.r (i := 0) rfl)).mono ?_
  rw [HR.out]
  rintro e w3 ⟨rfl, q⟩
  replace M := M.below q
  clear q v1 v2 v3 v4 v5 v6
  go_upto_region 5 with fail
  go_cut [7, 8, 9] (fun s7 s8 s9 wx => ∃ (g7 g8 g9 : Nat) (A7 A8 A9 : Option Addr) (c7 c8 c9 : Nat), s7 = .pointer (some ⟨g7, 0, none⟩) ∧ s8 = .pointer (some ⟨g8, 0, none⟩) ∧ s9 = .pointer (some ⟨g9, 0, none⟩) ∧ Mem w wx [(g9, 27, #[.bool l, .slice A9 zs.length c9]), (g8, 27, #[.bool m, .slice A8 ys.length c8]), (g7, 27, #[.bool n, .slice A7 xs.length c7])] [(A9, c9, zs), (A8, c8, ys), (A7, c7, xs)])
  case first =>
    refine region_st (n := 12) (frame := ?frame2) (fun j => [.val (.fix (iv n A xs.length c)), .val (.fix (iv n A xs.length c)), .val (.fix (iv m B ys.length d)), .val (.fix (iv m B ys.length d)), .val (.fix (iv l D zs.length f)), .val (.fix (iv l D zs.length f)), .cell 9 27 #[.bool false, .slice none 0 0] (.num (n) (xs)), .cell 10 27 #[.bool false, .slice none 0 0] (.num (m) (ys)), .cell 11 27 #[.bool false, .slice none 0 0] (.num (l) (zs)), .none, .none, .none].getD j .none) [] (by kernel_rfl) (by kernel_rfl) (by kernel_rfl) rfl M (fun _ h => by cases h) (fun _ h => by cases h) ?_ ?_ ?_
    case refine_1 =>
      intro s
      simp only [fr, Act.put, List.append_eq, List.cons_append, List.nil_append, List.setIfInBounds_toArray, List.set_cons_zero, List.set_cons_succ, Nat.reduceAdd]
      rfl
    case refine_2 =>
      refine Steps.cons 0 (j := 1) rfl ?_ (Steps.cons 1 (j := 2) rfl ?_ (Steps.cons 2 (j := 3) rfl ?_ (Steps.cons 3 (j := 4) rfl ?_ (Steps.cons 4 (j := 5) rfl ?_ (Steps.cons 5 (j := 6) rfl ?_ (Steps.cons 6 (j := 7) rfl ?_ (Steps.cons 7 (j := 8) rfl ?_ (Steps.cons 8 (j := 9) rfl ?_ (Steps.cons 9 (j := 10) rfl ?_ (Steps.cons 10 (j := 11) rfl ?_ (Steps.cons 11 (j := 12) rfl ?_ Steps.nil)))))))))))
      · intro L s w9 hN hU hi hS K hK
        dsimp only at hK ⊢
        simp only [Act.put, List.setIfInBounds_toArray, List.set_cons_zero, List.set_cons_succ] at hK
        obtain ⟨u1, u2, _, _⟩ := (hS.mem.k (i := 2) rfl).both
        go_simp
        exact hK.out _ _ (hS.val rfl rfl (Below.refl _ _) rfl)
      · intro L s w9 hN hU hi hS K hK
        dsimp only at hK ⊢
        simp only [Act.put, List.setIfInBounds_toArray, List.set_cons_zero, List.set_cons_succ] at hK
        have e0 : s 0 = iv n A xs.length c := hS.val_at 0 rfl (by decide) (hN.out 0 rfl)
        simp only [e0] at hK ⊢
        go_simp
        go_at_call 14
        refine (theirs_any _ _ _ _ _).mono ?_
        rintro e9 w10 ⟨rfl, q⟩
        exact hK.out _ _ (hS.val rfl rfl q rfl)
      · intro L s w9 hN hU hi hS K hK
        dsimp only at hK ⊢
        simp only [Act.put, List.setIfInBounds_toArray, List.set_cons_zero, List.set_cons_succ] at hK
        obtain ⟨u1, u2, _, _⟩ := (hS.mem.k (i := 1) rfl).both
        go_simp
        exact hK.out _ _ (hS.val rfl rfl (Below.refl _ _) rfl)
      · intro L s w9 hN hU hi hS K hK
        dsimp only at hK ⊢
        simp only [Act.put, List.setIfInBounds_toArray, List.set_cons_zero, List.set_cons_succ] at hK
        have e2 : s 2 = iv m B ys.length d := hS.val_at 2 rfl (by decide) (hN.out 2 rfl)
        simp only [e2] at hK ⊢
        go_simp
        go_at_call 14
        refine (theirs_any _ _ _ _ _).mono ?_
        rintro e9 w10 ⟨rfl, q⟩
        exact hK.out _ _ (hS.val rfl rfl q rfl)
      · intro L s w9 hN hU hi hS K hK
        dsimp only at hK ⊢
        simp only [Act.put, List.setIfInBounds_toArray, List.set_cons_zero, List.set_cons_succ] at hK
        obtain ⟨u1, u2, _, _⟩ := (hS.mem.k (i := 0) rfl).both
        go_simp
        exact hK.out _ _ (hS.val rfl rfl (Below.refl _ _) rfl)
      · intro L s w9 hN hU hi hS K hK
        dsimp only at hK ⊢
        simp only [Act.put, List.setIfInBounds_toArray, List.set_cons_zero, List.set_cons_succ] at hK
        have e4 : s 4 = iv l D zs.length f := hS.val_at 4 rfl (by decide) (hN.out 4 rfl)
        simp only [e4] at hK ⊢
        go_simp
        go_at_call 14
        refine (theirs_any _ _ _ _ _).mono ?_
        rintro e9 w10 ⟨rfl, q⟩
        exact hK.out _ _ (hS.val rfl rfl q rfl)
      · intro L s w9 hN hU hi hS K hK
        dsimp only at hK ⊢
        simp only [Act.put, List.setIfInBounds_toArray, List.set_cons_zero, List.set_cons_succ] at hK
        go_simp
        exact hK.out _ _ (hS.new rfl rfl hi.out (fun _ => hU.out 9 _ rfl rfl) rfl)
      · intro L s w9 hN hU hi hS K hK
        dsimp only at hK ⊢
        simp only [Act.put, List.setIfInBounds_toArray, List.set_cons_zero, List.set_cons_succ] at hK
        go_simp
        exact hK.out _ _ (hS.new rfl rfl hi.out (fun _ => hU.out 10 _ rfl rfl) rfl)
      · intro L s w9 hN hU hi hS K hK
        dsimp only at hK ⊢
        simp only [Act.put, List.setIfInBounds_toArray, List.set_cons_zero, List.set_cons_succ] at hK
        go_simp
        exact hK.out _ _ (hS.new rfl rfl hi.out (fun _ => hU.out 11 _ rfl rfl) rfl)
      · intro L s w9 hN hU hi hS K hK
        dsimp only at hK ⊢
        simp only [Act.put, List.setIfInBounds_toArray, List.set_cons_zero, List.set_cons_succ] at hK
        have e1 : s 1 = iv n A xs.length c := hS.val_at 1 rfl (by decide) (hN.out 1 rfl)
        simp only [e1] at hK ⊢
        obtain ⟨g9, cs9, e9, l9, b9, n9, z9, _⟩ := hS.cell_at 6 rfl (by decide) (hN.out 6 rfl)
        obtain rfl := z9 hi.out
        simp only [e9] at hK ⊢
        refine ite_of rfl ?_
        refine wp_store_row _ _ _ rfl g9 _ rfl rfl _ _ b9 info_int rfl (by rw [← Array.all_toList]; rfl) ?_
        simp only [Act.put]
        exact hK.out undef _ (hS.fill (u := undef) (c := .num (n) (xs)) rfl rfl (by decide) rfl (hN.out 6 rfl) hi.out e9 (setRow_grown _ _ _) (b9.row _) rfl ⟨_, _, rfl, hS.mem.r (i := 2) rfl⟩)
      · intro L s w9 hN hU hi hS K hK
        dsimp only at hK ⊢
        simp only [Act.put, List.setIfInBounds_toArray, List.set_cons_zero, List.set_cons_succ] at hK
        have e3 : s 3 = iv m B ys.length d := hS.val_at 3 rfl (by decide) (hN.out 3 rfl)
        simp only [e3] at hK ⊢
        obtain ⟨g9, cs9, e9, l9, b9, n9, z9, _⟩ := hS.cell_at 7 rfl (by decide) (hN.out 7 rfl)
        obtain rfl := z9 hi.out
        simp only [e9] at hK ⊢
        refine ite_of rfl ?_
        refine wp_store_row _ _ _ rfl g9 _ rfl rfl _ _ b9 info_int rfl (by rw [← Array.all_toList]; rfl) ?_
        simp only [Act.put]
        exact hK.out undef _ (hS.fill (u := undef) (c := .num (m) (ys)) rfl rfl (by decide) rfl (hN.out 7 rfl) hi.out e9 (setRow_grown _ _ _) (b9.row _) rfl ⟨_, _, rfl, hS.mem.r (i := 1) rfl⟩)
      · intro L s w9 hN hU hi hS K hK
        dsimp only at hK ⊢
        simp only [Act.put, List.setIfInBounds_toArray, List.set_cons_zero, List.set_cons_succ] at hK
        have e5 : s 5 = iv l D zs.length f := hS.val_at 5 rfl (by decide) (hN.out 5 rfl)
        simp only [e5] at hK ⊢
        obtain ⟨g9, cs9, e9, l9, b9, n9, z9, _⟩ := hS.cell_at 8 rfl (by decide) (hN.out 8 rfl)
        obtain rfl := z9 hi.out
        simp only [e9] at hK ⊢
        refine ite_of rfl ?_
        refine wp_store_row _ _ _ rfl g9 _ rfl rfl _ _ b9 info_int rfl (by rw [← Array.all_toList]; rfl) ?_
        simp only [Act.put]
        exact hK.out undef _ (hS.fill (u := undef) (c := .num (l) (zs)) rfl rfl (by decide) rfl (hN.out 8 rfl) hi.out e9 (setRow_grown _ _ _) (b9.row _) rfl ⟨_, _, rfl, hS.mem.r (i := 0) rfl⟩)
    intro L s w9 hall hS
    obtain ⟨g6, cs6, e6, l6, b6, n6, _, z6⟩ := hS.cell_at 6 rfl (by decide) (hall 6 (by decide))
    obtain ⟨A6, c6, rfl, h6⟩ := z6 (hall 9 (by decide))
    rw [e6]
    obtain ⟨g7, cs7, e7, l7, b7, n7, _, z7⟩ := hS.cell_at 7 rfl (by decide) (hall 7 (by decide))
    obtain ⟨A7, c7, rfl, h7⟩ := z7 (hall 10 (by decide))
    rw [e7]
    obtain ⟨g8, cs8, e8, l8, b8, n8, _, z8⟩ := hS.cell_at 8 rfl (by decide) (hall 8 (by decide))
    obtain ⟨A8, c8, rfl, h8⟩ := z8 (hall 11 (by decide))
    rw [e8]
    go_wp2_with fail
    go_meet
    exact ⟨_, _, _, A6, A7, A8, c6, c7, c8, rfl, rfl, rfl, ⟨hS.mem.bel, fun k hk => by
      simp only [List.mem_cons, List.not_mem_nil, or_false] at hk
      rcases hk with rfl | rfl | rfl
      · exact b8
      · exact b7
      · exact b6, fun k hk => by
      simp only [List.mem_cons, List.not_mem_nil, or_false] at hk
      rcases hk with rfl | rfl | rfl
      · exact h8
      · exact h7
      · exact h6⟩⟩
  case rest =>
    obtain ⟨g7, g8, g9, A7, A8, A9, c7, c8, c9, rfl, rfl, rfl, M⟩ := hcut
    obtain ⟨v1, v2, _, _⟩ := (M.k (i := 0) rfl).both
    obtain ⟨v3, v4, _, _⟩ := (M.k (i := 1) rfl).both
    obtain ⟨v5, v6, _, _⟩ := (M.k (i := 2) rfl).both
    go_wp2_with fail
    refine (sneg_eq' H01.out (M.r (i := 2) rfl)).mono ?_
    rintro e z1 ⟨⟨B1, d1, rfl, h⟩, q⟩
    replace M := ((M.below q).addR h).new 27 #[.bool nn, .slice B1 nd.length d1]
    clear q h v1 v2 v3 v4 v5 v6
    go_upto_region 10 with fail
    refine region_st (n := 93) (frame := ?frame3) (fun j => [.val (.fix (.int .i64 0)), .val (.fix (.bool true)), .val (.fix (.bool true)), .val (.fix (Value.func (.func 38) #[] #[])), .val (.fix (Value.func (.func 36) #[] #[])), .val (.fix (iv n A7 xs.length c7)), .val (.fix (iv nn B1 nd.length d1)), .val (.num false []), .val (.fix (iv false none 0 0)), .val (.fix (.bool true)), .val (.fix (.bool true)), .val (.fix (.bool true)), .val (.fix (Value.func (.func 38) #[] #[])), .val (.fix (Value.func (.func 36) #[] #[])), .val (.fix (iv n A7 xs.length c7)), .val (.fix (iv m A8 ys.length c8)), .val (.num sn sd), .val (.fix (Value.func (.func 36) #[] #[])), .val (.fix (iv m A8 ys.length c8)), .val (.fix (iv n A7 xs.length c7)), .val (.num sn sd), .val (.fix (.bool true)), .val (.fix (.bool true)), .val (.fix (.bool true)), .val (.fix (Value.func (.func 38) #[] #[])), .val (.fix (Value.func (.func 37) #[] #[])), .val (.fix (iv n A7 xs.length c7)), .val (.fix (iv m A8 ys.length c8)), .val (.num pn pd), .val (.fix (Value.func (.func 37) #[] #[])), .val (.fix (iv m A8 ys.length c8)), .val (.fix (iv n A7 xs.length c7)), .val (.num pn pd), .val (.fix (.bool true)), .val (.fix (.bool true)), .val (.fix (.bool true)), .val (.fix (Value.func (.func 38) #[] #[])), .val (.fix (Value.func (.func 36) #[] #[])), .val (.fix (Value.func (.func 36) #[] #[])), .val (.fix (iv n A7 xs.length c7)), .val (.fix (iv m A8 ys.length c8)), .val (.num sn sd), .val (.fix (iv l A9 zs.length c9)), .val (.num tn td), .val (.fix (Value.func (.func 36) #[] #[])), .val (.fix (iv n A7 xs.length c7)), .val (.fix (Value.func (.func 36) #[] #[])), .val (.fix (iv m A8 ys.length c8)), .val (.fix (iv l A9 zs.length c9)), .val (.num un ud), .val (.num tn td), .val (.fix (.bool true)), .val (.fix (.bool true)), .val (.fix (.bool true)), .val (.fix (Value.func (.func 38) #[] #[])), .val (.fix (Value.func (.func 37) #[] #[])), .val (.fix (Value.func (.func 37) #[] #[])), .val (.fix (iv n A7 xs.length c7)), .val (.fix (iv m A8 ys.length c8)), .val (.num pn pd), .val (.fix (iv l A9 zs.length c9)), .val (.num vn vd), .val (.fix (Value.func (.func 37) #[] #[])), .val (.fix (iv n A7 xs.length c7)), .val (.fix (Value.func (.func 37) #[] #[])), .val (.fix (iv m A8 ys.length c8)), .val (.fix (iv l A9 zs.length c9)), .val (.num rn rd), .val (.num vn vd), .val (.fix (.bool true)), .val (.fix (.bool true)), .val (.fix (.bool true)), .val (.fix (Value.func (.func 38) #[] #[])), .val (.fix (Value.func (.func 37) #[] #[])), .val (.fix (Value.func (.func 36) #[] #[])), .val (.fix (iv n A7 xs.length c7)), .val (.fix (iv m A8 ys.length c8)), .val (.num sn sd), .val (.fix (iv l A9 zs.length c9)), .val (.num gn gd), .val (.fix (Value.func (.func 36) #[] #[])), .val (.fix (Value.func (.func 37) #[] #[])), .val (.fix (iv n A7 xs.length c7)), .val (.fix (iv l A9 zs.length c9)), .val (.num kn kd), .val (.fix (Value.func (.func 37) #[] #[])), .val (.fix (iv m A8 ys.length c8)), .val (.fix (iv l A9 zs.length c9)), .val (.num rn rd), .val (.num gn gd), .val (.fix (.bool true)), .val (.fix (.bool true)), .val (.fix (.bool true))].getD j .none) [] (by kernel_rfl) (by kernel_rfl) (by kernel_rfl) rfl M (fun _ h => by cases h) (fun _ h => by cases h) ?_ ?_ ?_
    case refine_1 =>
      intro s
      simp only [fr, Act.put, List.append_eq, List.cons_append, List.nil_append, List.setIfInBounds_toArray, List.set_cons_zero, List.set_cons_succ, Nat.reduceAdd]
      rfl
    case refine_2 =>
      refine Steps.cons 0 (j := 1) rfl ?_ (Steps.cons 1 (j := 2) rfl ?_ (Steps.cons 2 (j := 3) rfl ?_ (Steps.cons 3 (j := 4) rfl ?_ (Steps.cons 4 (j := 5) rfl ?_ (Steps.cons 5 (j := 6) rfl ?_ (Steps.cons 6 (j := 7) rfl ?_ (Steps.cons 7 (j := 8) rfl ?_ (Steps.cons 8 (j := 9) rfl ?_ (Steps.cons 9 (j := 10) rfl ?_ (Steps.cons 10 (j := 11) rfl ?_ (Steps.cons 11 (j := 12) rfl ?_ (Steps.cons 12 (j := 13) rfl ?_ (Steps.cons 13 (j := 14) rfl ?_ (Steps.cons 14 (j := 15) rfl ?_ (Steps.cons 15 (j := 16) rfl ?_ (Steps.cons 16 (j := 17) rfl ?_ (Steps.cons 17 (j := 18) rfl ?_ (Steps.cons 18 (j := 19) rfl ?_ (Steps.cons 19 (j := 20) rfl ?_ (Steps.cons 20 (j := 21) rfl ?_ (Steps.cons 21 (j := 22) rfl ?_ (Steps.cons 22 (j := 23) rfl ?_ (Steps.cons 23 (j := 24) rfl ?_ (Steps.cons 24 (j := 25) rfl ?_ (Steps.cons 25 (j := 26) rfl ?_ (Steps.cons 26 (j := 27) rfl ?_ (Steps.cons 27 (j := 28) rfl ?_ (Steps.cons 28 (j := 29) rfl ?_ (Steps.cons 29 (j := 30) rfl ?_ (Steps.cons 30 (j := 31) rfl ?_ (Steps.cons 31 (j := 32) rfl ?_ (Steps.cons 32 (j := 33) rfl ?_ (Steps.cons 33 (j := 34) rfl ?_ (Steps.cons 34 (j := 35) rfl ?_ (Steps.cons 35 (j := 36) rfl ?_ (Steps.cons 36 (j := 37) rfl ?_ (Steps.cons 37 (j := 38) rfl ?_ (Steps.cons 38 (j := 39) rfl ?_ (Steps.cons 39 (j := 40) rfl ?_ (Steps.cons 40 (j := 41) rfl ?_ (Steps.cons 41 (j := 42) rfl ?_ (Steps.cons 42 (j := 43) rfl ?_ (Steps.cons 43 (j := 44) rfl ?_ (Steps.cons 44 (j := 45) rfl ?_ (Steps.cons 45 (j := 46) rfl ?_ (Steps.cons 46 (j := 47) rfl ?_ (Steps.cons 47 (j := 48) rfl ?_ (Steps.cons 48 (j := 49) rfl ?_ (Steps.cons 49 (j := 50) rfl ?_ (Steps.cons 50 (j := 51) rfl ?_ (Steps.cons 51 (j := 52) rfl ?_ (Steps.cons 52 (j := 53) rfl ?_ (Steps.cons 53 (j := 54) rfl ?_ (Steps.cons 54 (j := 55) rfl ?_ (Steps.cons 55 (j := 56) rfl ?_ (Steps.cons 56 (j := 57) rfl ?_ (Steps.cons 57 (j := 58) rfl ?_ (Steps.cons 58 (j := 59) rfl ?_ (Steps.cons 59 (j := 60) rfl ?_ (Steps.cons 60 (j := 61) rfl ?_ (Steps.cons 61 (j := 62) rfl ?_ (Steps.cons 62 (j := 63) rfl ?_ (Steps.cons 63 (j := 64) rfl ?_ (Steps.cons 64 (j := 65) rfl ?_ (Steps.cons 65 (j := 66) rfl ?_ (Steps.cons 66 (j := 67) rfl ?_ (Steps.cons 67 (j := 68) rfl ?_ (Steps.cons 68 (j := 69) rfl ?_ (Steps.cons 69 (j := 70) rfl ?_ (Steps.cons 70 (j := 71) rfl ?_ (Steps.cons 71 (j := 72) rfl ?_ (Steps.cons 72 (j := 73) rfl ?_ (Steps.cons 73 (j := 74) rfl ?_ (Steps.cons 74 (j := 75) rfl ?_ (Steps.cons 75 (j := 76) rfl ?_ (Steps.cons 76 (j := 77) rfl ?_ (Steps.cons 77 (j := 78) rfl ?_ (Steps.cons 78 (j := 79) rfl ?_ (Steps.cons 79 (j := 80) rfl ?_ (Steps.cons 80 (j := 81) rfl ?_ (Steps.cons 81 (j := 82) rfl ?_ (Steps.cons 82 (j := 83) rfl ?_ (Steps.cons 83 (j := 84) rfl ?_ (Steps.cons 84 (j := 85) rfl ?_ (Steps.cons 85 (j := 86) rfl ?_ (Steps.cons 86 (j := 87) rfl ?_ (Steps.cons 87 (j := 88) rfl ?_ (Steps.cons 88 (j := 89) rfl ?_ (Steps.cons 89 (j := 90) rfl ?_ (Steps.cons 90 (j := 91) rfl ?_ (Steps.cons 91 (j := 92) rfl ?_ (Steps.cons 92 (j := 93) rfl ?_ Steps.nil))))))))))))))))))))))))))))))))))))))))))))))))))))))))))))))))))))))))))))))))))))))))))))
      · intro L s w9 hN hU hi hS K hK
        dsimp only at hK ⊢
        simp only [Act.put, List.setIfInBounds_toArray, List.set_cons_zero, List.set_cons_succ] at hK
        go_simp
        exact hK.out _ _ (hS.val rfl (noStore_of rfl) (Below.refl _ _) rfl)
      · intro L s w9 hN hU hi hS K hK
        dsimp only at hK ⊢
        simp only [Act.put, List.setIfInBounds_toArray, List.set_cons_zero, List.set_cons_succ] at hK
        have e0 : s 0 = .int .i64 0 := hS.val_at 0 rfl (by decide) (hN.out 0 rfl)
        simp only [e0] at hK ⊢
        go_simp
        exact hK.out _ _ (hS.val rfl (noStore_of rfl) (Below.refl _ _) rfl)
      · intro L s w9 hN hU hi hS K hK
        dsimp only at hK ⊢
        simp only [Act.put, List.setIfInBounds_toArray, List.set_cons_zero, List.set_cons_succ] at hK
        have e1 : s 1 = .bool true := hS.val_at 1 rfl (by decide) (hN.out 1 rfl)
        simp only [e1] at hK ⊢
        go_simp
        exact hK.out _ _ (hS.val rfl (noStore_of rfl) (Below.refl _ _) rfl)
      · intro L s w9 hN hU hi hS K hK
        dsimp only at hK ⊢
        simp only [Act.put, List.setIfInBounds_toArray, List.set_cons_zero, List.set_cons_succ] at hK
        have e2 : s 2 = .bool true := hS.val_at 2 rfl (by decide) (hN.out 2 rfl)
        simp only [e2] at hK ⊢
        go_simp
        exact hK.out _ _ (hS.val rfl (noStore_of rfl) (Below.refl _ _) rfl)
      · intro L s w9 hN hU hi hS K hK
        dsimp only at hK ⊢
        simp only [Act.put, List.setIfInBounds_toArray, List.set_cons_zero, List.set_cons_succ] at hK
        have e2 : s 2 = .bool true := hS.val_at 2 rfl (by decide) (hN.out 2 rfl)
        simp only [e2] at hK ⊢
        go_simp
        exact hK.out _ _ (hS.val rfl (noStore_of rfl) (Below.refl _ _) rfl)
      · intro L s w9 hN hU hi hS K hK
        dsimp only at hK ⊢
        simp only [Act.put, List.setIfInBounds_toArray, List.set_cons_zero, List.set_cons_succ] at hK
        have e2 : s 2 = .bool true := hS.val_at 2 rfl (by decide) (hN.out 2 rfl)
        simp only [e2] at hK ⊢
        obtain ⟨u1, u2, _, _⟩ := (hS.mem.k (i := 3) rfl).both
        go_simp
        exact hK.out _ _ (hS.val rfl (noStore_of rfl) (Below.refl _ _) rfl)
      · intro L s w9 hN hU hi hS K hK
        dsimp only at hK ⊢
        simp only [Act.put, List.setIfInBounds_toArray, List.set_cons_zero, List.set_cons_succ] at hK
        have e2 : s 2 = .bool true := hS.val_at 2 rfl (by decide) (hN.out 2 rfl)
        simp only [e2] at hK ⊢
        obtain ⟨u1, u2, _, _⟩ := (hS.mem.k (i := 0) rfl).both
        go_simp
        exact hK.out _ _ (hS.val rfl (noStore_of rfl) (Below.refl _ _) rfl)
      · intro L s w9 hN hU hi hS K hK
        dsimp only at hK ⊢
        simp only [Act.put, List.setIfInBounds_toArray, List.set_cons_zero, List.set_cons_succ] at hK
        have e4 : s 4 = Value.func (.func 36) #[] #[] := hS.val_at 4 rfl (by decide) (hN.out 4 rfl)
        simp only [e4] at hK ⊢
        have e5 : s 5 = iv n A7 xs.length c7 := hS.val_at 5 rfl (by decide) (hN.out 5 rfl)
        simp only [e5] at hK ⊢
        have e6 : s 6 = iv nn B1 nd.length d1 := hS.val_at 6 rfl (by decide) (hN.out 6 rfl)
        simp only [e6] at hK ⊢
        have e2 : s 2 = .bool true := hS.val_at 2 rfl (by decide) (hN.out 2 rfl)
        simp only [e2] at hK ⊢
        go_simp
        go_at_call 36
        refine (addL H02.out (hS.mem.r (i := 3) rfl) (hS.mem.r (i := 0) rfl)).mono ?_
        rintro e9 w10 ⟨⟨A0, c0, rfl, h0⟩, q⟩
        exact hK.out _ _ (hS.val rfl (noStore_of rfl) q ⟨A0, c0, rfl, h0⟩)
      · intro L s w9 hN hU hi hS K hK
        dsimp only at hK ⊢
        simp only [Act.put, List.setIfInBounds_toArray, List.set_cons_zero, List.set_cons_succ] at hK
        have e2 : s 2 = .bool true := hS.val_at 2 rfl (by decide) (hN.out 2 rfl)
        simp only [e2] at hK ⊢
        go_simp
        exact hK.out _ _ (hS.val rfl (noStore_of rfl) (Below.refl _ _) rfl)
      · intro L s w9 hN hU hi hS K hK
        dsimp only at hK ⊢
        simp only [Act.put, List.setIfInBounds_toArray, List.set_cons_zero, List.set_cons_succ] at hK
        have e3 : s 3 = Value.func (.func 38) #[] #[] := hS.val_at 3 rfl (by decide) (hN.out 3 rfl)
        simp only [e3] at hK ⊢
        obtain ⟨A7, c7, e7, h7⟩ := hS.val_at 7 rfl (by decide) (hN.out 7 rfl)
        simp only [e7] at hK ⊢
        have e8 : s 8 = iv false none 0 0 := hS.val_at 8 rfl (by decide) (hN.out 8 rfl)
        simp only [e8] at hK ⊢
        have e2 : s 2 = .bool true := hS.val_at 2 rfl (by decide) (hN.out 2 rfl)
        simp only [e2] at hK ⊢
        go_simp
        go_at_call 38
        refine (sameL (xs := []) rfl (by decide) h7 (Rd.nil)).mono ?_
        rintro e9 w10 ⟨rfl, q⟩
        exact hK.out _ _ (hS.val rfl (noStore_of rfl) q rfl)
      · intro L s w9 hN hU hi hS K hK
        dsimp only at hK ⊢
        simp only [Act.put, List.setIfInBounds_toArray, List.set_cons_zero, List.set_cons_succ] at hK
        have e2 : s 2 = .bool true := hS.val_at 2 rfl (by decide) (hN.out 2 rfl)
        simp only [e2] at hK ⊢
        have e9 : s 9 = .bool true := hS.val_at 9 rfl (by decide) (hN.out 9 rfl)
        simp only [e9] at hK ⊢
        go_simp
        exact hK.out _ _ (hS.val rfl (noStore_of rfl) (Below.refl _ _) rfl)
      · intro L s w9 hN hU hi hS K hK
        dsimp only at hK ⊢
        simp only [Act.put, List.setIfInBounds_toArray, List.set_cons_zero, List.set_cons_succ] at hK
        have e10 : s 10 = .bool true := hS.val_at 10 rfl (by decide) (hN.out 10 rfl)
        simp only [e10] at hK ⊢
        go_simp
        exact hK.out _ _ (hS.val rfl (noStore_of rfl) (Below.refl _ _) rfl)
      · intro L s w9 hN hU hi hS K hK
        dsimp only at hK ⊢
        simp only [Act.put, List.setIfInBounds_toArray, List.set_cons_zero, List.set_cons_succ] at hK
        have e11 : s 11 = .bool true := hS.val_at 11 rfl (by decide) (hN.out 11 rfl)
        simp only [e11] at hK ⊢
        go_simp
        exact hK.out _ _ (hS.val rfl (noStore_of rfl) (Below.refl _ _) rfl)
      · intro L s w9 hN hU hi hS K hK
        dsimp only at hK ⊢
        simp only [Act.put, List.setIfInBounds_toArray, List.set_cons_zero, List.set_cons_succ] at hK
        have e11 : s 11 = .bool true := hS.val_at 11 rfl (by decide) (hN.out 11 rfl)
        simp only [e11] at hK ⊢
        go_simp
        exact hK.out _ _ (hS.val rfl (noStore_of rfl) (Below.refl _ _) rfl)
      · intro L s w9 hN hU hi hS K hK
        dsimp only at hK ⊢
        simp only [Act.put, List.setIfInBounds_toArray, List.set_cons_zero, List.set_cons_succ] at hK
        have e11 : s 11 = .bool true := hS.val_at 11 rfl (by decide) (hN.out 11 rfl)
        simp only [e11] at hK ⊢
        obtain ⟨u1, u2, _, _⟩ := (hS.mem.k (i := 3) rfl).both
        go_simp
        exact hK.out _ _ (hS.val rfl (noStore_of rfl) (Below.refl _ _) rfl)
      · intro L s w9 hN hU hi hS K hK
        dsimp only at hK ⊢
        simp only [Act.put, List.setIfInBounds_toArray, List.set_cons_zero, List.set_cons_succ] at hK
        have e11 : s 11 = .bool true := hS.val_at 11 rfl (by decide) (hN.out 11 rfl)
        simp only [e11] at hK ⊢
        obtain ⟨u1, u2, _, _⟩ := (hS.mem.k (i := 2) rfl).both
        go_simp
        exact hK.out _ _ (hS.val rfl (noStore_of rfl) (Below.refl _ _) rfl)
      · intro L s w9 hN hU hi hS K hK
        dsimp only at hK ⊢
        simp only [Act.put, List.setIfInBounds_toArray, List.set_cons_zero, List.set_cons_succ] at hK
        have e13 : s 13 = Value.func (.func 36) #[] #[] := hS.val_at 13 rfl (by decide) (hN.out 13 rfl)
        simp only [e13] at hK ⊢
        have e14 : s 14 = iv n A7 xs.length c7 := hS.val_at 14 rfl (by decide) (hN.out 14 rfl)
        simp only [e14] at hK ⊢
        have e15 : s 15 = iv m A8 ys.length c8 := hS.val_at 15 rfl (by decide) (hN.out 15 rfl)
        simp only [e15] at hK ⊢
        have e11 : s 11 = .bool true := hS.val_at 11 rfl (by decide) (hN.out 11 rfl)
        simp only [e11] at hK ⊢
        go_simp
        go_at_call 36
        refine (addL H03.out (hS.mem.r (i := 3) rfl) (hS.mem.r (i := 2) rfl)).mono ?_
        rintro e9 w10 ⟨⟨A0, c0, rfl, h0⟩, q⟩
        exact hK.out _ _ (hS.val rfl (noStore_of rfl) q ⟨A0, c0, rfl, h0⟩)
      · intro L s w9 hN hU hi hS K hK
        dsimp only at hK ⊢
        simp only [Act.put, List.setIfInBounds_toArray, List.set_cons_zero, List.set_cons_succ] at hK
        have e11 : s 11 = .bool true := hS.val_at 11 rfl (by decide) (hN.out 11 rfl)
        simp only [e11] at hK ⊢
        go_simp
        exact hK.out _ _ (hS.val rfl (noStore_of rfl) (Below.refl _ _) rfl)
      · intro L s w9 hN hU hi hS K hK
        dsimp only at hK ⊢
        simp only [Act.put, List.setIfInBounds_toArray, List.set_cons_zero, List.set_cons_succ] at hK
        have e11 : s 11 = .bool true := hS.val_at 11 rfl (by decide) (hN.out 11 rfl)
        simp only [e11] at hK ⊢
        obtain ⟨u1, u2, _, _⟩ := (hS.mem.k (i := 2) rfl).both
        go_simp
        exact hK.out _ _ (hS.val rfl (noStore_of rfl) (Below.refl _ _) rfl)
      · intro L s w9 hN hU hi hS K hK
        dsimp only at hK ⊢
        simp only [Act.put, List.setIfInBounds_toArray, List.set_cons_zero, List.set_cons_succ] at hK
        have e11 : s 11 = .bool true := hS.val_at 11 rfl (by decide) (hN.out 11 rfl)
        simp only [e11] at hK ⊢
        obtain ⟨u1, u2, _, _⟩ := (hS.mem.k (i := 3) rfl).both
        go_simp
        exact hK.out _ _ (hS.val rfl (noStore_of rfl) (Below.refl _ _) rfl)
      · intro L s w9 hN hU hi hS K hK
        dsimp only at hK ⊢
        simp only [Act.put, List.setIfInBounds_toArray, List.set_cons_zero, List.set_cons_succ] at hK
        have e17 : s 17 = Value.func (.func 36) #[] #[] := hS.val_at 17 rfl (by decide) (hN.out 17 rfl)
        simp only [e17] at hK ⊢
        have e18 : s 18 = iv m A8 ys.length c8 := hS.val_at 18 rfl (by decide) (hN.out 18 rfl)
        simp only [e18] at hK ⊢
        have e19 : s 19 = iv n A7 xs.length c7 := hS.val_at 19 rfl (by decide) (hN.out 19 rfl)
        simp only [e19] at hK ⊢
        have e11 : s 11 = .bool true := hS.val_at 11 rfl (by decide) (hN.out 11 rfl)
        simp only [e11] at hK ⊢
        go_simp
        go_at_call 36
        refine (addL H04.out (hS.mem.r (i := 2) rfl) (hS.mem.r (i := 3) rfl)).mono ?_
        rintro e9 w10 ⟨⟨A0, c0, rfl, h0⟩, q⟩
        exact hK.out _ _ (hS.val rfl (noStore_of rfl) q ⟨A0, c0, rfl, h0⟩)
      · intro L s w9 hN hU hi hS K hK
        dsimp only at hK ⊢
        simp only [Act.put, List.setIfInBounds_toArray, List.set_cons_zero, List.set_cons_succ] at hK
        have e12 : s 12 = Value.func (.func 38) #[] #[] := hS.val_at 12 rfl (by decide) (hN.out 12 rfl)
        simp only [e12] at hK ⊢
        obtain ⟨A16, c16, e16, h16⟩ := hS.val_at 16 rfl (by decide) (hN.out 16 rfl)
        simp only [e16] at hK ⊢
        obtain ⟨A20, c20, e20, h20⟩ := hS.val_at 20 rfl (by decide) (hN.out 20 rfl)
        simp only [e20] at hK ⊢
        have e11 : s 11 = .bool true := hS.val_at 11 rfl (by decide) (hN.out 11 rfl)
        simp only [e11] at hK ⊢
        go_simp
        go_at_call 38
        refine (sameL Q1.out L1.out h16 h20).mono ?_
        rintro e9 w10 ⟨rfl, q⟩
        exact hK.out _ _ (hS.val rfl (noStore_of rfl) q rfl)
      · intro L s w9 hN hU hi hS K hK
        dsimp only at hK ⊢
        simp only [Act.put, List.setIfInBounds_toArray, List.set_cons_zero, List.set_cons_succ] at hK
        have e11 : s 11 = .bool true := hS.val_at 11 rfl (by decide) (hN.out 11 rfl)
        simp only [e11] at hK ⊢
        have e21 : s 21 = .bool true := hS.val_at 21 rfl (by decide) (hN.out 21 rfl)
        simp only [e21] at hK ⊢
        go_simp
        exact hK.out _ _ (hS.val rfl (noStore_of rfl) (Below.refl _ _) rfl)
      · intro L s w9 hN hU hi hS K hK
        dsimp only at hK ⊢
        simp only [Act.put, List.setIfInBounds_toArray, List.set_cons_zero, List.set_cons_succ] at hK
        have e22 : s 22 = .bool true := hS.val_at 22 rfl (by decide) (hN.out 22 rfl)
        simp only [e22] at hK ⊢
        go_simp
        exact hK.out _ _ (hS.val rfl (noStore_of rfl) (Below.refl _ _) rfl)
      · intro L s w9 hN hU hi hS K hK
        dsimp only at hK ⊢
        simp only [Act.put, List.setIfInBounds_toArray, List.set_cons_zero, List.set_cons_succ] at hK
        have e23 : s 23 = .bool true := hS.val_at 23 rfl (by decide) (hN.out 23 rfl)
        simp only [e23] at hK ⊢
        go_simp
        exact hK.out _ _ (hS.val rfl (noStore_of rfl) (Below.refl _ _) rfl)
      · intro L s w9 hN hU hi hS K hK
        dsimp only at hK ⊢
        simp only [Act.put, List.setIfInBounds_toArray, List.set_cons_zero, List.set_cons_succ] at hK
        have e23 : s 23 = .bool true := hS.val_at 23 rfl (by decide) (hN.out 23 rfl)
        simp only [e23] at hK ⊢
        go_simp
        exact hK.out _ _ (hS.val rfl (noStore_of rfl) (Below.refl _ _) rfl)
      · intro L s w9 hN hU hi hS K hK
        dsimp only at hK ⊢
        simp only [Act.put, List.setIfInBounds_toArray, List.set_cons_zero, List.set_cons_succ] at hK
        have e23 : s 23 = .bool true := hS.val_at 23 rfl (by decide) (hN.out 23 rfl)
        simp only [e23] at hK ⊢
        obtain ⟨u1, u2, _, _⟩ := (hS.mem.k (i := 3) rfl).both
        go_simp
        exact hK.out _ _ (hS.val rfl (noStore_of rfl) (Below.refl _ _) rfl)
      · intro L s w9 hN hU hi hS K hK
        dsimp only at hK ⊢
        simp only [Act.put, List.setIfInBounds_toArray, List.set_cons_zero, List.set_cons_succ] at hK
        have e23 : s 23 = .bool true := hS.val_at 23 rfl (by decide) (hN.out 23 rfl)
        simp only [e23] at hK ⊢
        obtain ⟨u1, u2, _, _⟩ := (hS.mem.k (i := 2) rfl).both
        go_simp
        exact hK.out _ _ (hS.val rfl (noStore_of rfl) (Below.refl _ _) rfl)
      · intro L s w9 hN hU hi hS K hK
        dsimp only at hK ⊢
        simp only [Act.put, List.setIfInBounds_toArray, List.set_cons_zero, List.set_cons_succ] at hK
        have e25 : s 25 = Value.func (.func 37) #[] #[] := hS.val_at 25 rfl (by decide) (hN.out 25 rfl)
        simp only [e25] at hK ⊢
        have e26 : s 26 = iv n A7 xs.length c7 := hS.val_at 26 rfl (by decide) (hN.out 26 rfl)
        simp only [e26] at hK ⊢
        have e27 : s 27 = iv m A8 ys.length c8 := hS.val_at 27 rfl (by decide) (hN.out 27 rfl)
        simp only [e27] at hK ⊢
        have e23 : s 23 = .bool true := hS.val_at 23 rfl (by decide) (hN.out 23 rfl)
        simp only [e23] at hK ⊢
        go_simp
        go_at_call 37
        refine (mulL H05.out (hS.mem.r (i := 3) rfl) (hS.mem.r (i := 2) rfl)).mono ?_
        rintro e9 w10 ⟨⟨A0, c0, rfl, h0⟩, q⟩
        exact hK.out _ _ (hS.val rfl (noStore_of rfl) q ⟨A0, c0, rfl, h0⟩)
      · intro L s w9 hN hU hi hS K hK
        dsimp only at hK ⊢
        simp only [Act.put, List.setIfInBounds_toArray, List.set_cons_zero, List.set_cons_succ] at hK
        have e23 : s 23 = .bool true := hS.val_at 23 rfl (by decide) (hN.out 23 rfl)
        simp only [e23] at hK ⊢
        go_simp
        exact hK.out _ _ (hS.val rfl (noStore_of rfl) (Below.refl _ _) rfl)
      · intro L s w9 hN hU hi hS K hK
        dsimp only at hK ⊢
        simp only [Act.put, List.setIfInBounds_toArray, List.set_cons_zero, List.set_cons_succ] at hK
        have e23 : s 23 = .bool true := hS.val_at 23 rfl (by decide) (hN.out 23 rfl)
        simp only [e23] at hK ⊢
        obtain ⟨u1, u2, _, _⟩ := (hS.mem.k (i := 2) rfl).both
        go_simp
        exact hK.out _ _ (hS.val rfl (noStore_of rfl) (Below.refl _ _) rfl)
      · intro L s w9 hN hU hi hS K hK
        dsimp only at hK ⊢
        simp only [Act.put, List.setIfInBounds_toArray, List.set_cons_zero, List.set_cons_succ] at hK
        have e23 : s 23 = .bool true := hS.val_at 23 rfl (by decide) (hN.out 23 rfl)
        simp only [e23] at hK ⊢
        obtain ⟨u1, u2, _, _⟩ := (hS.mem.k (i := 3) rfl).both
        go_simp
        exact hK.out _ _ (hS.val rfl (noStore_of rfl) (Below.refl _ _) rfl)
      · intro L s w9 hN hU hi hS K hK
        dsimp only at hK ⊢
        simp only [Act.put, List.setIfInBounds_toArray, List.set_cons_zero, List.set_cons_succ] at hK
        have e29 : s 29 = Value.func (.func 37) #[] #[] := hS.val_at 29 rfl (by decide) (hN.out 29 rfl)
        simp only [e29] at hK ⊢
        have e30 : s 30 = iv m A8 ys.length c8 := hS.val_at 30 rfl (by decide) (hN.out 30 rfl)
        simp only [e30] at hK ⊢
        have e31 : s 31 = iv n A7 xs.length c7 := hS.val_at 31 rfl (by decide) (hN.out 31 rfl)
        simp only [e31] at hK ⊢
        have e23 : s 23 = .bool true := hS.val_at 23 rfl (by decide) (hN.out 23 rfl)
        simp only [e23] at hK ⊢
        go_simp
        go_at_call 37
        refine (mulL H06.out (hS.mem.r (i := 2) rfl) (hS.mem.r (i := 3) rfl)).mono ?_
        rintro e9 w10 ⟨⟨A0, c0, rfl, h0⟩, q⟩
        exact hK.out _ _ (hS.val rfl (noStore_of rfl) q ⟨A0, c0, rfl, h0⟩)
      · intro L s w9 hN hU hi hS K hK
        dsimp only at hK ⊢
        simp only [Act.put, List.setIfInBounds_toArray, List.set_cons_zero, List.set_cons_succ] at hK
        have e24 : s 24 = Value.func (.func 38) #[] #[] := hS.val_at 24 rfl (by decide) (hN.out 24 rfl)
        simp only [e24] at hK ⊢
        obtain ⟨A28, c28, e28, h28⟩ := hS.val_at 28 rfl (by decide) (hN.out 28 rfl)
        simp only [e28] at hK ⊢
        obtain ⟨A32, c32, e32, h32⟩ := hS.val_at 32 rfl (by decide) (hN.out 32 rfl)
        simp only [e32] at hK ⊢
        have e23 : s 23 = .bool true := hS.val_at 23 rfl (by decide) (hN.out 23 rfl)
        simp only [e23] at hK ⊢
        go_simp
        go_at_call 38
        refine (sameL Q2.out L2.out h28 h32).mono ?_
        rintro e9 w10 ⟨rfl, q⟩
        exact hK.out _ _ (hS.val rfl (noStore_of rfl) q rfl)
      · intro L s w9 hN hU hi hS K hK
        dsimp only at hK ⊢
        simp only [Act.put, List.setIfInBounds_toArray, List.set_cons_zero, List.set_cons_succ] at hK
        have e23 : s 23 = .bool true := hS.val_at 23 rfl (by decide) (hN.out 23 rfl)
        simp only [e23] at hK ⊢
        have e33 : s 33 = .bool true := hS.val_at 33 rfl (by decide) (hN.out 33 rfl)
        simp only [e33] at hK ⊢
        go_simp
        exact hK.out _ _ (hS.val rfl (noStore_of rfl) (Below.refl _ _) rfl)
      · intro L s w9 hN hU hi hS K hK
        dsimp only at hK ⊢
        simp only [Act.put, List.setIfInBounds_toArray, List.set_cons_zero, List.set_cons_succ] at hK
        have e34 : s 34 = .bool true := hS.val_at 34 rfl (by decide) (hN.out 34 rfl)
        simp only [e34] at hK ⊢
        go_simp
        exact hK.out _ _ (hS.val rfl (noStore_of rfl) (Below.refl _ _) rfl)
      · intro L s w9 hN hU hi hS K hK
        dsimp only at hK ⊢
        simp only [Act.put, List.setIfInBounds_toArray, List.set_cons_zero, List.set_cons_succ] at hK
        have e35 : s 35 = .bool true := hS.val_at 35 rfl (by decide) (hN.out 35 rfl)
        simp only [e35] at hK ⊢
        go_simp
        exact hK.out _ _ (hS.val rfl (noStore_of rfl) (Below.refl _ _) rfl)
      · intro L s w9 hN hU hi hS K hK
        dsimp only at hK ⊢
        simp only [Act.put, List.setIfInBounds_toArray, List.set_cons_zero, List.set_cons_succ] at hK
        have e35 : s 35 = .bool true := hS.val_at 35 rfl (by decide) (hN.out 35 rfl)
        simp only [e35] at hK ⊢
        go_simp
        exact hK.out _ _ (hS.val rfl (noStore_of rfl) (Below.refl _ _) rfl)
      · intro L s w9 hN hU hi hS K hK
        dsimp only at hK ⊢
        simp only [Act.put, List.setIfInBounds_toArray, List.set_cons_zero, List.set_cons_succ] at hK
        have e35 : s 35 = .bool true := hS.val_at 35 rfl (by decide) (hN.out 35 rfl)
        simp only [e35] at hK ⊢
        go_simp
        exact hK.out _ _ (hS.val rfl (noStore_of rfl) (Below.refl _ _) rfl)
      · intro L s w9 hN hU hi hS K hK
        dsimp only at hK ⊢
        simp only [Act.put, List.setIfInBounds_toArray, List.set_cons_zero, List.set_cons_succ] at hK
        have e35 : s 35 = .bool true := hS.val_at 35 rfl (by decide) (hN.out 35 rfl)
        simp only [e35] at hK ⊢
        obtain ⟨u1, u2, _, _⟩ := (hS.mem.k (i := 3) rfl).both
        go_simp
        exact hK.out _ _ (hS.val rfl (noStore_of rfl) (Below.refl _ _) rfl)
      · intro L s w9 hN hU hi hS K hK
        dsimp only at hK ⊢
        simp only [Act.put, List.setIfInBounds_toArray, List.set_cons_zero, List.set_cons_succ] at hK
        have e35 : s 35 = .bool true := hS.val_at 35 rfl (by decide) (hN.out 35 rfl)
        simp only [e35] at hK ⊢
        obtain ⟨u1, u2, _, _⟩ := (hS.mem.k (i := 2) rfl).both
        go_simp
        exact hK.out _ _ (hS.val rfl (noStore_of rfl) (Below.refl _ _) rfl)
      · intro L s w9 hN hU hi hS K hK
        dsimp only at hK ⊢
        simp only [Act.put, List.setIfInBounds_toArray, List.set_cons_zero, List.set_cons_succ] at hK
        have e38 : s 38 = Value.func (.func 36) #[] #[] := hS.val_at 38 rfl (by decide) (hN.out 38 rfl)
        simp only [e38] at hK ⊢
        have e39 : s 39 = iv n A7 xs.length c7 := hS.val_at 39 rfl (by decide) (hN.out 39 rfl)
        simp only [e39] at hK ⊢
        have e40 : s 40 = iv m A8 ys.length c8 := hS.val_at 40 rfl (by decide) (hN.out 40 rfl)
        simp only [e40] at hK ⊢
        have e35 : s 35 = .bool true := hS.val_at 35 rfl (by decide) (hN.out 35 rfl)
        simp only [e35] at hK ⊢
        go_simp
        go_at_call 36
        refine (addL H03.out (hS.mem.r (i := 3) rfl) (hS.mem.r (i := 2) rfl)).mono ?_
        rintro e9 w10 ⟨⟨A0, c0, rfl, h0⟩, q⟩
        exact hK.out _ _ (hS.val rfl (noStore_of rfl) q ⟨A0, c0, rfl, h0⟩)
      · intro L s w9 hN hU hi hS K hK
        dsimp only at hK ⊢
        simp only [Act.put, List.setIfInBounds_toArray, List.set_cons_zero, List.set_cons_succ] at hK
        have e35 : s 35 = .bool true := hS.val_at 35 rfl (by decide) (hN.out 35 rfl)
        simp only [e35] at hK ⊢
        obtain ⟨u1, u2, _, _⟩ := (hS.mem.k (i := 1) rfl).both
        go_simp
        exact hK.out _ _ (hS.val rfl (noStore_of rfl) (Below.refl _ _) rfl)
      · intro L s w9 hN hU hi hS K hK
        dsimp only at hK ⊢
        simp only [Act.put, List.setIfInBounds_toArray, List.set_cons_zero, List.set_cons_succ] at hK
        have e37 : s 37 = Value.func (.func 36) #[] #[] := hS.val_at 37 rfl (by decide) (hN.out 37 rfl)
        simp only [e37] at hK ⊢
        obtain ⟨A41, c41, e41, h41⟩ := hS.val_at 41 rfl (by decide) (hN.out 41 rfl)
        simp only [e41] at hK ⊢
        have e42 : s 42 = iv l A9 zs.length c9 := hS.val_at 42 rfl (by decide) (hN.out 42 rfl)
        simp only [e42] at hK ⊢
        have e35 : s 35 = .bool true := hS.val_at 35 rfl (by decide) (hN.out 35 rfl)
        simp only [e35] at hK ⊢
        go_simp
        go_at_call 36
        refine (addL H07.out h41 (hS.mem.r (i := 1) rfl)).mono ?_
        rintro e9 w10 ⟨⟨A0, c0, rfl, h0⟩, q⟩
        exact hK.out _ _ (hS.val rfl (noStore_of rfl) q ⟨A0, c0, rfl, h0⟩)
      · intro L s w9 hN hU hi hS K hK
        dsimp only at hK ⊢
        simp only [Act.put, List.setIfInBounds_toArray, List.set_cons_zero, List.set_cons_succ] at hK
        have e35 : s 35 = .bool true := hS.val_at 35 rfl (by decide) (hN.out 35 rfl)
        simp only [e35] at hK ⊢
        go_simp
        exact hK.out _ _ (hS.val rfl (noStore_of rfl) (Below.refl _ _) rfl)
      · intro L s w9 hN hU hi hS K hK
        dsimp only at hK ⊢
        simp only [Act.put, List.setIfInBounds_toArray, List.set_cons_zero, List.set_cons_succ] at hK
        have e35 : s 35 = .bool true := hS.val_at 35 rfl (by decide) (hN.out 35 rfl)
        simp only [e35] at hK ⊢
        obtain ⟨u1, u2, _, _⟩ := (hS.mem.k (i := 3) rfl).both
        go_simp
        exact hK.out _ _ (hS.val rfl (noStore_of rfl) (Below.refl _ _) rfl)
      · intro L s w9 hN hU hi hS K hK
        dsimp only at hK ⊢
        simp only [Act.put, List.setIfInBounds_toArray, List.set_cons_zero, List.set_cons_succ] at hK
        have e35 : s 35 = .bool true := hS.val_at 35 rfl (by decide) (hN.out 35 rfl)
        simp only [e35] at hK ⊢
        go_simp
        exact hK.out _ _ (hS.val rfl (noStore_of rfl) (Below.refl _ _) rfl)
      · intro L s w9 hN hU hi hS K hK
        dsimp only at hK ⊢
        simp only [Act.put, List.setIfInBounds_toArray, List.set_cons_zero, List.set_cons_succ] at hK
        have e35 : s 35 = .bool true := hS.val_at 35 rfl (by decide) (hN.out 35 rfl)
        simp only [e35] at hK ⊢
        obtain ⟨u1, u2, _, _⟩ := (hS.mem.k (i := 2) rfl).both
        go_simp
        exact hK.out _ _ (hS.val rfl (noStore_of rfl) (Below.refl _ _) rfl)
      · intro L s w9 hN hU hi hS K hK
        dsimp only at hK ⊢
        simp only [Act.put, List.setIfInBounds_toArray, List.set_cons_zero, List.set_cons_succ] at hK
        have e35 : s 35 = .bool true := hS.val_at 35 rfl (by decide) (hN.out 35 rfl)
        simp only [e35] at hK ⊢
        obtain ⟨u1, u2, _, _⟩ := (hS.mem.k (i := 1) rfl).both
        go_simp
        exact hK.out _ _ (hS.val rfl (noStore_of rfl) (Below.refl _ _) rfl)
      · intro L s w9 hN hU hi hS K hK
        dsimp only at hK ⊢
        simp only [Act.put, List.setIfInBounds_toArray, List.set_cons_zero, List.set_cons_succ] at hK
        have e46 : s 46 = Value.func (.func 36) #[] #[] := hS.val_at 46 rfl (by decide) (hN.out 46 rfl)
        simp only [e46] at hK ⊢
        have e47 : s 47 = iv m A8 ys.length c8 := hS.val_at 47 rfl (by decide) (hN.out 47 rfl)
        simp only [e47] at hK ⊢
        have e48 : s 48 = iv l A9 zs.length c9 := hS.val_at 48 rfl (by decide) (hN.out 48 rfl)
        simp only [e48] at hK ⊢
        have e35 : s 35 = .bool true := hS.val_at 35 rfl (by decide) (hN.out 35 rfl)
        simp only [e35] at hK ⊢
        go_simp
        go_at_call 36
        refine (addL H08.out (hS.mem.r (i := 2) rfl) (hS.mem.r (i := 1) rfl)).mono ?_
        rintro e9 w10 ⟨⟨A0, c0, rfl, h0⟩, q⟩
        exact hK.out _ _ (hS.val rfl (noStore_of rfl) q ⟨A0, c0, rfl, h0⟩)
      · intro L s w9 hN hU hi hS K hK
        dsimp only at hK ⊢
        simp only [Act.put, List.setIfInBounds_toArray, List.set_cons_zero, List.set_cons_succ] at hK
        have e44 : s 44 = Value.func (.func 36) #[] #[] := hS.val_at 44 rfl (by decide) (hN.out 44 rfl)
        simp only [e44] at hK ⊢
        have e45 : s 45 = iv n A7 xs.length c7 := hS.val_at 45 rfl (by decide) (hN.out 45 rfl)
        simp only [e45] at hK ⊢
        obtain ⟨A49, c49, e49, h49⟩ := hS.val_at 49 rfl (by decide) (hN.out 49 rfl)
        simp only [e49] at hK ⊢
        have e35 : s 35 = .bool true := hS.val_at 35 rfl (by decide) (hN.out 35 rfl)
        simp only [e35] at hK ⊢
        go_simp
        go_at_call 36
        refine (addL H09.out (hS.mem.r (i := 3) rfl) h49).mono ?_
        rintro e9 w10 ⟨⟨A0, c0, rfl, h0⟩, q⟩
        exact hK.out _ _ (hS.val rfl (noStore_of rfl) q ⟨A0, c0, rfl, h0⟩)
      · intro L s w9 hN hU hi hS K hK
        dsimp only at hK ⊢
        simp only [Act.put, List.setIfInBounds_toArray, List.set_cons_zero, List.set_cons_succ] at hK
        have e36 : s 36 = Value.func (.func 38) #[] #[] := hS.val_at 36 rfl (by decide) (hN.out 36 rfl)
        simp only [e36] at hK ⊢
        obtain ⟨A43, c43, e43, h43⟩ := hS.val_at 43 rfl (by decide) (hN.out 43 rfl)
        simp only [e43] at hK ⊢
        obtain ⟨A50, c50, e50, h50⟩ := hS.val_at 50 rfl (by decide) (hN.out 50 rfl)
        simp only [e50] at hK ⊢
        have e35 : s 35 = .bool true := hS.val_at 35 rfl (by decide) (hN.out 35 rfl)
        simp only [e35] at hK ⊢
        go_simp
        go_at_call 38
        refine (sameL Q3.out L3.out h43 h50).mono ?_
        rintro e9 w10 ⟨rfl, q⟩
        exact hK.out _ _ (hS.val rfl (noStore_of rfl) q rfl)
      · intro L s w9 hN hU hi hS K hK
        dsimp only at hK ⊢
        simp only [Act.put, List.setIfInBounds_toArray, List.set_cons_zero, List.set_cons_succ] at hK
        have e35 : s 35 = .bool true := hS.val_at 35 rfl (by decide) (hN.out 35 rfl)
        simp only [e35] at hK ⊢
        have e51 : s 51 = .bool true := hS.val_at 51 rfl (by decide) (hN.out 51 rfl)
        simp only [e51] at hK ⊢
        go_simp
        exact hK.out _ _ (hS.val rfl (noStore_of rfl) (Below.refl _ _) rfl)
      · intro L s w9 hN hU hi hS K hK
        dsimp only at hK ⊢
        simp only [Act.put, List.setIfInBounds_toArray, List.set_cons_zero, List.set_cons_succ] at hK
        have e52 : s 52 = .bool true := hS.val_at 52 rfl (by decide) (hN.out 52 rfl)
        simp only [e52] at hK ⊢
        go_simp
        exact hK.out _ _ (hS.val rfl (noStore_of rfl) (Below.refl _ _) rfl)
      · intro L s w9 hN hU hi hS K hK
        dsimp only at hK ⊢
        simp only [Act.put, List.setIfInBounds_toArray, List.set_cons_zero, List.set_cons_succ] at hK
        have e53 : s 53 = .bool true := hS.val_at 53 rfl (by decide) (hN.out 53 rfl)
        simp only [e53] at hK ⊢
        go_simp
        exact hK.out _ _ (hS.val rfl (noStore_of rfl) (Below.refl _ _) rfl)
      · intro L s w9 hN hU hi hS K hK
        dsimp only at hK ⊢
        simp only [Act.put, List.setIfInBounds_toArray, List.set_cons_zero, List.set_cons_succ] at hK
        have e53 : s 53 = .bool true := hS.val_at 53 rfl (by decide) (hN.out 53 rfl)
        simp only [e53] at hK ⊢
        go_simp
        exact hK.out _ _ (hS.val rfl (noStore_of rfl) (Below.refl _ _) rfl)
      · intro L s w9 hN hU hi hS K hK
        dsimp only at hK ⊢
        simp only [Act.put, List.setIfInBounds_toArray, List.set_cons_zero, List.set_cons_succ] at hK
        have e53 : s 53 = .bool true := hS.val_at 53 rfl (by decide) (hN.out 53 rfl)
        simp only [e53] at hK ⊢
        go_simp
        exact hK.out _ _ (hS.val rfl (noStore_of rfl) (Below.refl _ _) rfl)
      · intro L s w9 hN hU hi hS K hK
        dsimp only at hK ⊢
        simp only [Act.put, List.setIfInBounds_toArray, List.set_cons_zero, List.set_cons_succ] at hK
        have e53 : s 53 = .bool true := hS.val_at 53 rfl (by decide) (hN.out 53 rfl)
        simp only [e53] at hK ⊢
        obtain ⟨u1, u2, _, _⟩ := (hS.mem.k (i := 3) rfl).both
        go_simp
        exact hK.out _ _ (hS.val rfl (noStore_of rfl) (Below.refl _ _) rfl)
      · intro L s w9 hN hU hi hS K hK
        dsimp only at hK ⊢
        simp only [Act.put, List.setIfInBounds_toArray, List.set_cons_zero, List.set_cons_succ] at hK
        have e53 : s 53 = .bool true := hS.val_at 53 rfl (by decide) (hN.out 53 rfl)
        simp only [e53] at hK ⊢
        obtain ⟨u1, u2, _, _⟩ := (hS.mem.k (i := 2) rfl).both
        go_simp
        exact hK.out _ _ (hS.val rfl (noStore_of rfl) (Below.refl _ _) rfl)
      · intro L s w9 hN hU hi hS K hK
        dsimp only at hK ⊢
        simp only [Act.put, List.setIfInBounds_toArray, List.set_cons_zero, List.set_cons_succ] at hK
        have e56 : s 56 = Value.func (.func 37) #[] #[] := hS.val_at 56 rfl (by decide) (hN.out 56 rfl)
        simp only [e56] at hK ⊢
        have e57 : s 57 = iv n A7 xs.length c7 := hS.val_at 57 rfl (by decide) (hN.out 57 rfl)
        simp only [e57] at hK ⊢
        have e58 : s 58 = iv m A8 ys.length c8 := hS.val_at 58 rfl (by decide) (hN.out 58 rfl)
        simp only [e58] at hK ⊢
        have e53 : s 53 = .bool true := hS.val_at 53 rfl (by decide) (hN.out 53 rfl)
        simp only [e53] at hK ⊢
        go_simp
        go_at_call 37
        refine (mulL H05.out (hS.mem.r (i := 3) rfl) (hS.mem.r (i := 2) rfl)).mono ?_
        rintro e9 w10 ⟨⟨A0, c0, rfl, h0⟩, q⟩
        exact hK.out _ _ (hS.val rfl (noStore_of rfl) q ⟨A0, c0, rfl, h0⟩)
      · intro L s w9 hN hU hi hS K hK
        dsimp only at hK ⊢
        simp only [Act.put, List.setIfInBounds_toArray, List.set_cons_zero, List.set_cons_succ] at hK
        have e53 : s 53 = .bool true := hS.val_at 53 rfl (by decide) (hN.out 53 rfl)
        simp only [e53] at hK ⊢
        obtain ⟨u1, u2, _, _⟩ := (hS.mem.k (i := 1) rfl).both
        go_simp
        exact hK.out _ _ (hS.val rfl (noStore_of rfl) (Below.refl _ _) rfl)
      · intro L s w9 hN hU hi hS K hK
        dsimp only at hK ⊢
        simp only [Act.put, List.setIfInBounds_toArray, List.set_cons_zero, List.set_cons_succ] at hK
        have e55 : s 55 = Value.func (.func 37) #[] #[] := hS.val_at 55 rfl (by decide) (hN.out 55 rfl)
        simp only [e55] at hK ⊢
        obtain ⟨A59, c59, e59, h59⟩ := hS.val_at 59 rfl (by decide) (hN.out 59 rfl)
        simp only [e59] at hK ⊢
        have e60 : s 60 = iv l A9 zs.length c9 := hS.val_at 60 rfl (by decide) (hN.out 60 rfl)
        simp only [e60] at hK ⊢
        have e53 : s 53 = .bool true := hS.val_at 53 rfl (by decide) (hN.out 53 rfl)
        simp only [e53] at hK ⊢
        go_simp
        go_at_call 37
        refine (mulL H10.out h59 (hS.mem.r (i := 1) rfl)).mono ?_
        rintro e9 w10 ⟨⟨A0, c0, rfl, h0⟩, q⟩
        exact hK.out _ _ (hS.val rfl (noStore_of rfl) q ⟨A0, c0, rfl, h0⟩)
      · intro L s w9 hN hU hi hS K hK
        dsimp only at hK ⊢
        simp only [Act.put, List.setIfInBounds_toArray, List.set_cons_zero, List.set_cons_succ] at hK
        have e53 : s 53 = .bool true := hS.val_at 53 rfl (by decide) (hN.out 53 rfl)
        simp only [e53] at hK ⊢
        go_simp
        exact hK.out _ _ (hS.val rfl (noStore_of rfl) (Below.refl _ _) rfl)
      · intro L s w9 hN hU hi hS K hK
        dsimp only at hK ⊢
        simp only [Act.put, List.setIfInBounds_toArray, List.set_cons_zero, List.set_cons_succ] at hK
        have e53 : s 53 = .bool true := hS.val_at 53 rfl (by decide) (hN.out 53 rfl)
        simp only [e53] at hK ⊢
        obtain ⟨u1, u2, _, _⟩ := (hS.mem.k (i := 3) rfl).both
        go_simp
        exact hK.out _ _ (hS.val rfl (noStore_of rfl) (Below.refl _ _) rfl)
      · intro L s w9 hN hU hi hS K hK
        dsimp only at hK ⊢
        simp only [Act.put, List.setIfInBounds_toArray, List.set_cons_zero, List.set_cons_succ] at hK
        have e53 : s 53 = .bool true := hS.val_at 53 rfl (by decide) (hN.out 53 rfl)
        simp only [e53] at hK ⊢
        go_simp
        exact hK.out _ _ (hS.val rfl (noStore_of rfl) (Below.refl _ _) rfl)
      · intro L s w9 hN hU hi hS K hK
        dsimp only at hK ⊢
        simp only [Act.put, List.setIfInBounds_toArray, List.set_cons_zero, List.set_cons_succ] at hK
        have e53 : s 53 = .bool true := hS.val_at 53 rfl (by decide) (hN.out 53 rfl)
        simp only [e53] at hK ⊢
        obtain ⟨u1, u2, _, _⟩ := (hS.mem.k (i := 2) rfl).both
        go_simp
        exact hK.out _ _ (hS.val rfl (noStore_of rfl) (Below.refl _ _) rfl)
      · intro L s w9 hN hU hi hS K hK
        dsimp only at hK ⊢
        simp only [Act.put, List.setIfInBounds_toArray, List.set_cons_zero, List.set_cons_succ] at hK
        have e53 : s 53 = .bool true := hS.val_at 53 rfl (by decide) (hN.out 53 rfl)
        simp only [e53] at hK ⊢
        obtain ⟨u1, u2, _, _⟩ := (hS.mem.k (i := 1) rfl).both
        go_simp
        exact hK.out _ _ (hS.val rfl (noStore_of rfl) (Below.refl _ _) rfl)
      · intro L s w9 hN hU hi hS K hK
        dsimp only at hK ⊢
        simp only [Act.put, List.setIfInBounds_toArray, List.set_cons_zero, List.set_cons_succ] at hK
        have e64 : s 64 = Value.func (.func 37) #[] #[] := hS.val_at 64 rfl (by decide) (hN.out 64 rfl)
        simp only [e64] at hK ⊢
        have e65 : s 65 = iv m A8 ys.length c8 := hS.val_at 65 rfl (by decide) (hN.out 65 rfl)
        simp only [e65] at hK ⊢
        have e66 : s 66 = iv l A9 zs.length c9 := hS.val_at 66 rfl (by decide) (hN.out 66 rfl)
        simp only [e66] at hK ⊢
        have e53 : s 53 = .bool true := hS.val_at 53 rfl (by decide) (hN.out 53 rfl)
        simp only [e53] at hK ⊢
        go_simp
        go_at_call 37
        refine (mulL H11.out (hS.mem.r (i := 2) rfl) (hS.mem.r (i := 1) rfl)).mono ?_
        rintro e9 w10 ⟨⟨A0, c0, rfl, h0⟩, q⟩
        exact hK.out _ _ (hS.val rfl (noStore_of rfl) q ⟨A0, c0, rfl, h0⟩)
      · intro L s w9 hN hU hi hS K hK
        dsimp only at hK ⊢
        simp only [Act.put, List.setIfInBounds_toArray, List.set_cons_zero, List.set_cons_succ] at hK
        have e62 : s 62 = Value.func (.func 37) #[] #[] := hS.val_at 62 rfl (by decide) (hN.out 62 rfl)
        simp only [e62] at hK ⊢
        have e63 : s 63 = iv n A7 xs.length c7 := hS.val_at 63 rfl (by decide) (hN.out 63 rfl)
        simp only [e63] at hK ⊢
        obtain ⟨A67, c67, e67, h67⟩ := hS.val_at 67 rfl (by decide) (hN.out 67 rfl)
        simp only [e67] at hK ⊢
        have e53 : s 53 = .bool true := hS.val_at 53 rfl (by decide) (hN.out 53 rfl)
        simp only [e53] at hK ⊢
        go_simp
        go_at_call 37
        refine (mulL H12.out (hS.mem.r (i := 3) rfl) h67).mono ?_
        rintro e9 w10 ⟨⟨A0, c0, rfl, h0⟩, q⟩
        exact hK.out _ _ (hS.val rfl (noStore_of rfl) q ⟨A0, c0, rfl, h0⟩)
      · intro L s w9 hN hU hi hS K hK
        dsimp only at hK ⊢
        simp only [Act.put, List.setIfInBounds_toArray, List.set_cons_zero, List.set_cons_succ] at hK
        have e54 : s 54 = Value.func (.func 38) #[] #[] := hS.val_at 54 rfl (by decide) (hN.out 54 rfl)
        simp only [e54] at hK ⊢
        obtain ⟨A61, c61, e61, h61⟩ := hS.val_at 61 rfl (by decide) (hN.out 61 rfl)
        simp only [e61] at hK ⊢
        obtain ⟨A68, c68, e68, h68⟩ := hS.val_at 68 rfl (by decide) (hN.out 68 rfl)
        simp only [e68] at hK ⊢
        have e53 : s 53 = .bool true := hS.val_at 53 rfl (by decide) (hN.out 53 rfl)
        simp only [e53] at hK ⊢
        go_simp
        go_at_call 38
        refine (sameL Q4.out L4.out h61 h68).mono ?_
        rintro e9 w10 ⟨rfl, q⟩
        exact hK.out _ _ (hS.val rfl (noStore_of rfl) q rfl)
      · intro L s w9 hN hU hi hS K hK
        dsimp only at hK ⊢
        simp only [Act.put, List.setIfInBounds_toArray, List.set_cons_zero, List.set_cons_succ] at hK
        have e53 : s 53 = .bool true := hS.val_at 53 rfl (by decide) (hN.out 53 rfl)
        simp only [e53] at hK ⊢
        have e69 : s 69 = .bool true := hS.val_at 69 rfl (by decide) (hN.out 69 rfl)
        simp only [e69] at hK ⊢
        go_simp
        exact hK.out _ _ (hS.val rfl (noStore_of rfl) (Below.refl _ _) rfl)
      · intro L s w9 hN hU hi hS K hK
        dsimp only at hK ⊢
        simp only [Act.put, List.setIfInBounds_toArray, List.set_cons_zero, List.set_cons_succ] at hK
        have e70 : s 70 = .bool true := hS.val_at 70 rfl (by decide) (hN.out 70 rfl)
        simp only [e70] at hK ⊢
        go_simp
        exact hK.out _ _ (hS.val rfl (noStore_of rfl) (Below.refl _ _) rfl)
      · intro L s w9 hN hU hi hS K hK
        dsimp only at hK ⊢
        simp only [Act.put, List.setIfInBounds_toArray, List.set_cons_zero, List.set_cons_succ] at hK
        have e71 : s 71 = .bool true := hS.val_at 71 rfl (by decide) (hN.out 71 rfl)
        simp only [e71] at hK ⊢
        go_simp
        exact hK.out _ _ (hS.val rfl (noStore_of rfl) (Below.refl _ _) rfl)
      · intro L s w9 hN hU hi hS K hK
        dsimp only at hK ⊢
        simp only [Act.put, List.setIfInBounds_toArray, List.set_cons_zero, List.set_cons_succ] at hK
        have e71 : s 71 = .bool true := hS.val_at 71 rfl (by decide) (hN.out 71 rfl)
        simp only [e71] at hK ⊢
        go_simp
        exact hK.out _ _ (hS.val rfl (noStore_of rfl) (Below.refl _ _) rfl)
      · intro L s w9 hN hU hi hS K hK
        dsimp only at hK ⊢
        simp only [Act.put, List.setIfInBounds_toArray, List.set_cons_zero, List.set_cons_succ] at hK
        have e71 : s 71 = .bool true := hS.val_at 71 rfl (by decide) (hN.out 71 rfl)
        simp only [e71] at hK ⊢
        go_simp
        exact hK.out _ _ (hS.val rfl (noStore_of rfl) (Below.refl _ _) rfl)
      · intro L s w9 hN hU hi hS K hK
        dsimp only at hK ⊢
        simp only [Act.put, List.setIfInBounds_toArray, List.set_cons_zero, List.set_cons_succ] at hK
        have e71 : s 71 = .bool true := hS.val_at 71 rfl (by decide) (hN.out 71 rfl)
        simp only [e71] at hK ⊢
        obtain ⟨u1, u2, _, _⟩ := (hS.mem.k (i := 3) rfl).both
        go_simp
        exact hK.out _ _ (hS.val rfl (noStore_of rfl) (Below.refl _ _) rfl)
      · intro L s w9 hN hU hi hS K hK
        dsimp only at hK ⊢
        simp only [Act.put, List.setIfInBounds_toArray, List.set_cons_zero, List.set_cons_succ] at hK
        have e71 : s 71 = .bool true := hS.val_at 71 rfl (by decide) (hN.out 71 rfl)
        simp only [e71] at hK ⊢
        obtain ⟨u1, u2, _, _⟩ := (hS.mem.k (i := 2) rfl).both
        go_simp
        exact hK.out _ _ (hS.val rfl (noStore_of rfl) (Below.refl _ _) rfl)
      · intro L s w9 hN hU hi hS K hK
        dsimp only at hK ⊢
        simp only [Act.put, List.setIfInBounds_toArray, List.set_cons_zero, List.set_cons_succ] at hK
        have e74 : s 74 = Value.func (.func 36) #[] #[] := hS.val_at 74 rfl (by decide) (hN.out 74 rfl)
        simp only [e74] at hK ⊢
        have e75 : s 75 = iv n A7 xs.length c7 := hS.val_at 75 rfl (by decide) (hN.out 75 rfl)
        simp only [e75] at hK ⊢
        have e76 : s 76 = iv m A8 ys.length c8 := hS.val_at 76 rfl (by decide) (hN.out 76 rfl)
        simp only [e76] at hK ⊢
        have e71 : s 71 = .bool true := hS.val_at 71 rfl (by decide) (hN.out 71 rfl)
        simp only [e71] at hK ⊢
        go_simp
        go_at_call 36
        refine (addL H03.out (hS.mem.r (i := 3) rfl) (hS.mem.r (i := 2) rfl)).mono ?_
        rintro e9 w10 ⟨⟨A0, c0, rfl, h0⟩, q⟩
        exact hK.out _ _ (hS.val rfl (noStore_of rfl) q ⟨A0, c0, rfl, h0⟩)
      · intro L s w9 hN hU hi hS K hK
        dsimp only at hK ⊢
        simp only [Act.put, List.setIfInBounds_toArray, List.set_cons_zero, List.set_cons_succ] at hK
        have e71 : s 71 = .bool true := hS.val_at 71 rfl (by decide) (hN.out 71 rfl)
        simp only [e71] at hK ⊢
        obtain ⟨u1, u2, _, _⟩ := (hS.mem.k (i := 1) rfl).both
        go_simp
        exact hK.out _ _ (hS.val rfl (noStore_of rfl) (Below.refl _ _) rfl)
      · intro L s w9 hN hU hi hS K hK
        dsimp only at hK ⊢
        simp only [Act.put, List.setIfInBounds_toArray, List.set_cons_zero, List.set_cons_succ] at hK
        have e73 : s 73 = Value.func (.func 37) #[] #[] := hS.val_at 73 rfl (by decide) (hN.out 73 rfl)
        simp only [e73] at hK ⊢
        obtain ⟨A77, c77, e77, h77⟩ := hS.val_at 77 rfl (by decide) (hN.out 77 rfl)
        simp only [e77] at hK ⊢
        have e78 : s 78 = iv l A9 zs.length c9 := hS.val_at 78 rfl (by decide) (hN.out 78 rfl)
        simp only [e78] at hK ⊢
        have e71 : s 71 = .bool true := hS.val_at 71 rfl (by decide) (hN.out 71 rfl)
        simp only [e71] at hK ⊢
        go_simp
        go_at_call 37
        refine (mulL H13.out h77 (hS.mem.r (i := 1) rfl)).mono ?_
        rintro e9 w10 ⟨⟨A0, c0, rfl, h0⟩, q⟩
        exact hK.out _ _ (hS.val rfl (noStore_of rfl) q ⟨A0, c0, rfl, h0⟩)
      · intro L s w9 hN hU hi hS K hK
        dsimp only at hK ⊢
        simp only [Act.put, List.setIfInBounds_toArray, List.set_cons_zero, List.set_cons_succ] at hK
        have e71 : s 71 = .bool true := hS.val_at 71 rfl (by decide) (hN.out 71 rfl)
        simp only [e71] at hK ⊢
        go_simp
        exact hK.out _ _ (hS.val rfl (noStore_of rfl) (Below.refl _ _) rfl)
      · intro L s w9 hN hU hi hS K hK
        dsimp only at hK ⊢
        simp only [Act.put, List.setIfInBounds_toArray, List.set_cons_zero, List.set_cons_succ] at hK
        have e71 : s 71 = .bool true := hS.val_at 71 rfl (by decide) (hN.out 71 rfl)
        simp only [e71] at hK ⊢
        go_simp
        exact hK.out _ _ (hS.val rfl (noStore_of rfl) (Below.refl _ _) rfl)
      · intro L s w9 hN hU hi hS K hK
        dsimp only at hK ⊢
        simp only [Act.put, List.setIfInBounds_toArray, List.set_cons_zero, List.set_cons_succ] at hK
        have e71 : s 71 = .bool true := hS.val_at 71 rfl (by decide) (hN.out 71 rfl)
        simp only [e71] at hK ⊢
        obtain ⟨u1, u2, _, _⟩ := (hS.mem.k (i := 3) rfl).both
        go_simp
        exact hK.out _ _ (hS.val rfl (noStore_of rfl) (Below.refl _ _) rfl)
      · intro L s w9 hN hU hi hS K hK
        dsimp only at hK ⊢
        simp only [Act.put, List.setIfInBounds_toArray, List.set_cons_zero, List.set_cons_succ] at hK
        have e71 : s 71 = .bool true := hS.val_at 71 rfl (by decide) (hN.out 71 rfl)
        simp only [e71] at hK ⊢
        obtain ⟨u1, u2, _, _⟩ := (hS.mem.k (i := 1) rfl).both
        go_simp
        exact hK.out _ _ (hS.val rfl (noStore_of rfl) (Below.refl _ _) rfl)
      · intro L s w9 hN hU hi hS K hK
        dsimp only at hK ⊢
        simp only [Act.put, List.setIfInBounds_toArray, List.set_cons_zero, List.set_cons_succ] at hK
        have e81 : s 81 = Value.func (.func 37) #[] #[] := hS.val_at 81 rfl (by decide) (hN.out 81 rfl)
        simp only [e81] at hK ⊢
        have e82 : s 82 = iv n A7 xs.length c7 := hS.val_at 82 rfl (by decide) (hN.out 82 rfl)
        simp only [e82] at hK ⊢
        have e83 : s 83 = iv l A9 zs.length c9 := hS.val_at 83 rfl (by decide) (hN.out 83 rfl)
        simp only [e83] at hK ⊢
        have e71 : s 71 = .bool true := hS.val_at 71 rfl (by decide) (hN.out 71 rfl)
        simp only [e71] at hK ⊢
        go_simp
        go_at_call 37
        refine (mulL H14.out (hS.mem.r (i := 3) rfl) (hS.mem.r (i := 1) rfl)).mono ?_
        rintro e9 w10 ⟨⟨A0, c0, rfl, h0⟩, q⟩
        exact hK.out _ _ (hS.val rfl (noStore_of rfl) q ⟨A0, c0, rfl, h0⟩)
      · intro L s w9 hN hU hi hS K hK
        dsimp only at hK ⊢
        simp only [Act.put, List.setIfInBounds_toArray, List.set_cons_zero, List.set_cons_succ] at hK
        have e71 : s 71 = .bool true := hS.val_at 71 rfl (by decide) (hN.out 71 rfl)
        simp only [e71] at hK ⊢
        go_simp
        exact hK.out _ _ (hS.val rfl (noStore_of rfl) (Below.refl _ _) rfl)
      · intro L s w9 hN hU hi hS K hK
        dsimp only at hK ⊢
        simp only [Act.put, List.setIfInBounds_toArray, List.set_cons_zero, List.set_cons_succ] at hK
        have e71 : s 71 = .bool true := hS.val_at 71 rfl (by decide) (hN.out 71 rfl)
        simp only [e71] at hK ⊢
        obtain ⟨u1, u2, _, _⟩ := (hS.mem.k (i := 2) rfl).both
        go_simp
        exact hK.out _ _ (hS.val rfl (noStore_of rfl) (Below.refl _ _) rfl)
      · intro L s w9 hN hU hi hS K hK
        dsimp only at hK ⊢
        simp only [Act.put, List.setIfInBounds_toArray, List.set_cons_zero, List.set_cons_succ] at hK
        have e71 : s 71 = .bool true := hS.val_at 71 rfl (by decide) (hN.out 71 rfl)
        simp only [e71] at hK ⊢
        obtain ⟨u1, u2, _, _⟩ := (hS.mem.k (i := 1) rfl).both
        go_simp
        exact hK.out _ _ (hS.val rfl (noStore_of rfl) (Below.refl _ _) rfl)
      · intro L s w9 hN hU hi hS K hK
        dsimp only at hK ⊢
        simp only [Act.put, List.setIfInBounds_toArray, List.set_cons_zero, List.set_cons_succ] at hK
        have e85 : s 85 = Value.func (.func 37) #[] #[] := hS.val_at 85 rfl (by decide) (hN.out 85 rfl)
        simp only [e85] at hK ⊢
        have e86 : s 86 = iv m A8 ys.length c8 := hS.val_at 86 rfl (by decide) (hN.out 86 rfl)
        simp only [e86] at hK ⊢
        have e87 : s 87 = iv l A9 zs.length c9 := hS.val_at 87 rfl (by decide) (hN.out 87 rfl)
        simp only [e87] at hK ⊢
        have e71 : s 71 = .bool true := hS.val_at 71 rfl (by decide) (hN.out 71 rfl)
        simp only [e71] at hK ⊢
        go_simp
        go_at_call 37
        refine (mulL H11.out (hS.mem.r (i := 2) rfl) (hS.mem.r (i := 1) rfl)).mono ?_
        rintro e9 w10 ⟨⟨A0, c0, rfl, h0⟩, q⟩
        exact hK.out _ _ (hS.val rfl (noStore_of rfl) q ⟨A0, c0, rfl, h0⟩)
      · intro L s w9 hN hU hi hS K hK
        dsimp only at hK ⊢
        simp only [Act.put, List.setIfInBounds_toArray, List.set_cons_zero, List.set_cons_succ] at hK
        have e80 : s 80 = Value.func (.func 36) #[] #[] := hS.val_at 80 rfl (by decide) (hN.out 80 rfl)
        simp only [e80] at hK ⊢
        obtain ⟨A84, c84, e84, h84⟩ := hS.val_at 84 rfl (by decide) (hN.out 84 rfl)
        simp only [e84] at hK ⊢
        obtain ⟨A88, c88, e88, h88⟩ := hS.val_at 88 rfl (by decide) (hN.out 88 rfl)
        simp only [e88] at hK ⊢
        have e71 : s 71 = .bool true := hS.val_at 71 rfl (by decide) (hN.out 71 rfl)
        simp only [e71] at hK ⊢
        go_simp
        go_at_call 36
        refine (addL H15.out h84 h88).mono ?_
        rintro e9 w10 ⟨⟨A0, c0, rfl, h0⟩, q⟩
        exact hK.out _ _ (hS.val rfl (noStore_of rfl) q ⟨A0, c0, rfl, h0⟩)
      · intro L s w9 hN hU hi hS K hK
        dsimp only at hK ⊢
        simp only [Act.put, List.setIfInBounds_toArray, List.set_cons_zero, List.set_cons_succ] at hK
        have e72 : s 72 = Value.func (.func 38) #[] #[] := hS.val_at 72 rfl (by decide) (hN.out 72 rfl)
        simp only [e72] at hK ⊢
        obtain ⟨A79, c79, e79, h79⟩ := hS.val_at 79 rfl (by decide) (hN.out 79 rfl)
        simp only [e79] at hK ⊢
        obtain ⟨A89, c89, e89, h89⟩ := hS.val_at 89 rfl (by decide) (hN.out 89 rfl)
        simp only [e89] at hK ⊢
        have e71 : s 71 = .bool true := hS.val_at 71 rfl (by decide) (hN.out 71 rfl)
        simp only [e71] at hK ⊢
        go_simp
        go_at_call 38
        refine (sameL Q5.out L5.out h79 h89).mono ?_
        rintro e9 w10 ⟨rfl, q⟩
        exact hK.out _ _ (hS.val rfl (noStore_of rfl) q rfl)
      · intro L s w9 hN hU hi hS K hK
        dsimp only at hK ⊢
        simp only [Act.put, List.setIfInBounds_toArray, List.set_cons_zero, List.set_cons_succ] at hK
        have e71 : s 71 = .bool true := hS.val_at 71 rfl (by decide) (hN.out 71 rfl)
        simp only [e71] at hK ⊢
        have e90 : s 90 = .bool true := hS.val_at 90 rfl (by decide) (hN.out 90 rfl)
        simp only [e90] at hK ⊢
        go_simp
        exact hK.out _ _ (hS.val rfl (noStore_of rfl) (Below.refl _ _) rfl)
      · intro L s w9 hN hU hi hS K hK
        dsimp only at hK ⊢
        simp only [Act.put, List.setIfInBounds_toArray, List.set_cons_zero, List.set_cons_succ] at hK
        have e91 : s 91 = .bool true := hS.val_at 91 rfl (by decide) (hN.out 91 rfl)
        simp only [e91] at hK ⊢
        go_simp
        exact hK.out _ _ (hS.val rfl (noStore_of rfl) (Below.refl _ _) rfl)
    intro L s w9 hall hS
    have e92 : s 92 = .bool true := hS.val_at 92 rfl (by decide) (hall 92 (by decide))
    rw [e92]
    go_wp2
    go_ret
    exact ⟨rfl, hS.mem.bel⟩
end Go.Proofs.Ytmhjjjffgpdolaa

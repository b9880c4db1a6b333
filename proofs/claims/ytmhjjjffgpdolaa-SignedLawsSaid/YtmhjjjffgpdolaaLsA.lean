/-
  The walk of the law SignedSums.
-/
import Derived.Test.YtmhjjjffgpdolaaSgF
import Derived.Deep.DeepCutAuto
set_option linter.unusedSimpArgs false
set_option linter.unusedVariables false
namespace Go.Proofs.Ytmhjjjffgpdolaa
open Go.RowKit Num

theorem sfit_len (z : Int) : (sfit z).2.1.length ≤ 256 := by
  unfold sfit
  split
  · assumption
  · exact Nat.zero_le _
theorem saddR_len (n m : Bool) (xs ys : List Nat) : (saddR n xs m ys).2.1.length ≤ 256 := by
  unfold saddR
  split
  · exact sfit_len _
  · exact Nat.zero_le _
theorem smulR_len (n m : Bool) (xs ys : List Nat) : (smulR n xs m ys).2.1.length ≤ 256 := by
  unfold smulR
  split
  · exact sfit_len _
  · exact Nat.zero_le _
theorem snegR_len (n : Bool) {xs : List Nat} (h : xs.length ≤ 30 ∧ Ok xs) : (snegR n xs).2.1.length ≤ 256 := by
  unfold snegR
  split
  · rename_i h1
    unfold sok
    show (sD (-(sv n xs))).length ≤ 256
    rw [sD_neg, sv_dig h.2 h1]
    omega
  · exact Nat.zero_le _
theorem els2 {w : World} {n m : Bool} {A B : Option Addr} {xs ys : List Nat} {c d g t : Nat} (hg : g = w.heap.size) (ha : Rd w A c xs) (hb : Rd w B d ys) :
    Els (w.alloc (.cells #[.bool n, .slice A xs.length c, .bool m, .slice B ys.length d] t)) g [⟨n, A, xs, c⟩, ⟨m, B, ys, d⟩] := by
  subst hg
  have hk := Blk.new w t #[.bool n, .slice A xs.length c, .bool m, .slice B ys.length d]
  refine ⟨hk.lt, fun i hi => ?_⟩
  match i, hi with
  | 0, _ => exact ⟨(hk.cell 0).trans rfl, (hk.cell 1).trans rfl, ha.alloc _⟩
  | 1, _ => exact ⟨(hk.cell 2).trans rfl, (hk.cell 3).trans rfl, hb.alloc _⟩
  | i + 2, hi => exact absurd hi (by simp)
theorem few2 {w : World} {n m : Bool} {A B : Option Addr} {xs ys : List Nat} {c d g t : Nat} (hg : g = w.heap.size) (ha : Rd w A c xs) (hb : Rd w B d ys) :
    Calls Try.prog 12 #[.slice (some ⟨g, 0, none⟩) 2 2] (w.alloc (.cells #[.bool n, .slice A xs.length c, .bool m, .slice B ys.length d] t)) fun e w' => e = .returned (.bool (decide (xs.length ≤ 30 ∧ ys.length ≤ 30))) ∧ Below w.heap.size w w' :=
  (few_any g 2 _ _ (by simp) (els2 hg ha hb)).mono fun _ _ ⟨h1, h2⟩ => ⟨by rw [h1]; simp [fewL], below_trans (below_alloc1 _ _) h2⟩

set_option maxRecDepth 100000 in
set_option maxHeartbeats 1000000 in
theorem signedSums_use (w : World) (n : Bool) (A : Option Addr) (c : Nat) (xs : List Nat) (ha : Rd w A c xs) (m : Bool) (B : Option Addr) (d : Nat) (ys : List Nat) (hb : Rd w B d ys) :
    Calls Try.prog 6 #[iv n A xs.length c, iv m B ys.length d] w fun e w' => e = .returned (.bool true) ∧ Below w.heap.size w w' := by
  have hox := ha.ok
  have M : Mem w ((w.alloc (.cells #[.bool n, .slice A xs.length c] 24)).alloc (.cells #[.bool m, .slice B ys.length d] 24)) [(w.heap.size + 1, 24, #[.bool m, .slice B ys.length d]), (w.heap.size, 24, #[.bool n, .slice A xs.length c])] [(B, d, ys), (A, c, xs)] :=
    (((((Mem.start w).addR ha).addR hb).new 24 #[.bool n, .slice A xs.length c]).newAt (by simp) 24 #[.bool m, .slice B ys.length d])
  clear ha hb
  by_cases hf : xs.length ≤ 30 ∧ ys.length ≤ 30
  case neg =>
    have HF : Hid (decide (xs.length ≤ 30 ∧ ys.length ≤ 30) = false) := decide_eq_false hf
    clear hf
    go_enter Try.func6, Try.ntmps6
    go_wp2_with fail
    refine (salive_any _).mono ?_
    rintro e w1 ⟨rfl, q⟩
    replace M := M.below q
    clear q
    obtain ⟨v1, v2, _, _⟩ := (M.k (i := 1) rfl).both
    obtain ⟨v3, v4, _, _⟩ := (M.k (i := 0) rfl).both
    go_wp2_with fail
    refine (few2 rfl (M.r (i := 1) rfl) (M.r (i := 0) rfl)).mono ?_
    rw [HF.out]
    rintro e w2 ⟨rfl, q⟩
    replace M := M.below q
    clear q v1 v2 v3 v4
    go_wp2
    go_ret
    exact ⟨rfl, M.bel⟩
  have HF : Hid (decide (xs.length ≤ 30 ∧ ys.length ≤ 30) = true) := decide_eq_true hf
  have hf1 := hf.1
  have hf2 := hf.2
  clear hf
  go_enter Try.func6, Try.ntmps6
  go_wp2_with fail
  refine (salive_any _).mono ?_
  rintro e w1 ⟨rfl, q⟩
  replace M := M.below q
  clear q
  obtain ⟨v1, v2, _, _⟩ := (M.k (i := 1) rfl).both
  obtain ⟨v3, v4, _, _⟩ := (M.k (i := 0) rfl).both
  go_wp2_with fail
  refine (few2 rfl (M.r (i := 1) rfl) (M.r (i := 0) rfl)).mono ?_
  rw [HF.out]
  rintro e w2 ⟨rfl, q⟩
  replace M := M.below q
  clear q v1 v2 v3 v4
  obtain ⟨v1, v2, _, _⟩ := (M.k (i := 1) rfl).both
  obtain ⟨v3, v4, _, _⟩ := (M.k (i := 0) rfl).both
  go_upto_region 5 with fail
  go_cut [5, 6] (fun s5 s6 wx => ∃ (gZ : Nat) (AZ : Option Addr) (cZ : Nat), s5 = .pointer (some ⟨gZ, 0, none⟩) ∧ s6 = .int .i64 (saddR n xs m ys).2.2 ∧ Mem w wx ((gZ, 27, #[.bool (saddR n xs m ys).1, .slice AZ (saddR n xs m ys).2.1.length cZ]) :: [(w.heap.size + 1, 24, #[.bool m, .slice B ys.length d]), (w.heap.size, 24, #[.bool n, .slice A xs.length c])]) ((AZ, cZ, (saddR n xs m ys).2.1) :: [(B, d, ys), (A, c, xs)]))
  case first =>
    clear v1 v2 v3 v4
    generalize w2 = W at *
    obtain ⟨v1, v2, _, _⟩ := (M.k (i := 1) rfl).both
    obtain ⟨v3, v4, _, _⟩ := (M.k (i := 0) rfl).both
    have M0 := M
    replace M := M.drew
    go_region_held3 (fun w' => w'.cell? ⟨w.heap.size, 0, none⟩ = some (.bool n) ∧ w'.cell? ⟨w.heap.size, 1, none⟩ = some (.slice A xs.length c) ∧ w'.cell? ⟨w.heap.size + 1, 0, none⟩ = some (.bool m) ∧ w'.cell? ⟨w.heap.size + 1, 1, none⟩ = some (.slice B ys.length d)) (first | (with_reducible exact ⟨(M.k (i := 1) rfl).both.1, (M.k (i := 1) rfl).both.2.1, (M.k (i := 0) rfl).both.1, (M.k (i := 0) rfl).both.2.1⟩) | (with_reducible exact ⟨((M.alloc _).k (i := 1) rfl).both.1, ((M.alloc _).k (i := 1) rfl).both.2.1, ((M.alloc _).k (i := 0) rfl).both.1, ((M.alloc _).k (i := 0) rfl).both.2.1⟩) | (with_reducible exact ⟨((M.k (i := 1) rfl).away (Nat.ne_of_lt la) _ _).both.1, ((M.k (i := 1) rfl).away (Nat.ne_of_lt la) _ _).both.2.1, ((M.k (i := 0) rfl).away (Nat.ne_of_lt lb) _ _).both.1, ((M.k (i := 0) rfl).away (Nat.ne_of_lt lb) _ _).both.2.1⟩) | go_keep)
      (first | (go_at_call 14; (with_reducible refine (theirs_any _ _ _ _ _).mono ?_); rintro e w3 ⟨rfl, q⟩; (first | ((with_reducible replace M := M.below q); try (replace kx := Blk.below kx q (Nat.le_refl _))) | (have la := (M.k (i := 1) rfl).lt; have lb := (M.k (i := 0) rfl).lt; have lz := M.lt; (with_reducible replace M := (M.alloc _).below q); have kx := (Blk.new _ _ _).below q (Nat.le_refl _)) | (have la := (M0.k (i := 1) rfl).lt; have lb := (M0.k (i := 0) rfl).lt; have lz := M0.lt; (with_reducible replace M := (M0.alloc _).drew.below q); have kx := (Blk.new _ _ _).drew.below q (Nat.le_refl _))); try (obtain ⟨f1, f2, f3, f4⟩ := kx.both)) | (go_at_call 30; (first | (with_reducible refine (sadd_any _ _ _ _ _ _ _ _ _ (M.r (i := 1) rfl) (M.r (i := 0) rfl)).mono ?_) | (with_reducible refine (sadd_any _ _ _ _ _ _ _ _ _ ((M.alloc _).r (i := 1) rfl) ((M.alloc _).r (i := 0) rfl)).mono ?_)); rintro e w4 ⟨⟨AZ, cZ, rfl, h1⟩, q⟩; (first | ((with_reducible replace M := M.below q); try (replace kx := Blk.below kx q (Nat.le_refl _))) | (have la := (M.k (i := 1) rfl).lt; have lb := (M.k (i := 0) rfl).lt; have lz := M.lt; (with_reducible replace M := (M.alloc _).below q); have kx := (Blk.new _ _ _).below q (Nat.le_refl _))); try (obtain ⟨f1, f2, f3, f4⟩ := kx.both)))
    all_goals (go_wp2_with fail; go_meet; first | exact ⟨_, AZ, cZ, rfl, rfl, (M.addR h1).new _ _⟩ | exact ⟨_, AZ, cZ, rfl, rfl, ((M.addR h1).addK kx).put (Nat.le_of_lt la) (fun k hk => Nat.ne_of_lt (lz k hk)) _ _ _ _⟩)
  case rest =>
    obtain ⟨gx, A1, c1, rfl, rfl, M⟩ := hcut
    rename_i wc1
    obtain ⟨v1, v2, _, _⟩ := (M.k (i := 2) rfl).both
    obtain ⟨v3, v4, _, _⟩ := (M.k (i := 1) rfl).both
    go_wp2_with fail
    refine (rsadd_any _ _ _ _ _ _ _ _ _ (M.r (i := 2) rfl) (M.r (i := 1) rfl)).mono ?_
    rintro e w6 ⟨⟨A2, c2, rfl, h⟩, q⟩
    replace M := ((M.below q).addR h).new 24 #[.bool (saddR n xs m ys).1, .slice A2 (saddR n xs m ys).2.1.length c2]
    clear q h v1 v2 v3 v4
    obtain ⟨v1, v2, _, _⟩ := (M.k (i := 3) rfl).both
    obtain ⟨v3, v4, _, _⟩ := (M.k (i := 2) rfl).both
    go_upto_region 7 with fail
    go_cut [9, 10] (fun s5 s6 wx => ∃ (gZ : Nat) (AZ : Option Addr) (cZ : Nat), s5 = .pointer (some ⟨gZ, 0, none⟩) ∧ s6 = .int .i64 (smulR n xs m ys).2.2 ∧ Mem w wx ((gZ, 27, #[.bool (smulR n xs m ys).1, .slice AZ (smulR n xs m ys).2.1.length cZ]) :: [(w6.heap.size, 24, #[.bool (saddR n xs m ys).1, .slice A2 (saddR n xs m ys).2.1.length c2]), (gx, 27, #[.bool (saddR n xs m ys).1, .slice A1 (saddR n xs m ys).2.1.length c1]), (w.heap.size + 1, 24, #[.bool m, .slice B ys.length d]), (w.heap.size, 24, #[.bool n, .slice A xs.length c])]) ((AZ, cZ, (smulR n xs m ys).2.1) :: [(A2, c2, (saddR n xs m ys).2.1), (A1, c1, (saddR n xs m ys).2.1), (B, d, ys), (A, c, xs)]))
    case first =>
      clear v1 v2 v3 v4
      generalize w6.alloc (.cells #[.bool (saddR n xs m ys).1, .slice A2 (saddR n xs m ys).2.1.length c2] 24) = W at *
      obtain ⟨v1, v2, _, _⟩ := (M.k (i := 3) rfl).both
      obtain ⟨v3, v4, _, _⟩ := (M.k (i := 2) rfl).both
      have M0 := M
      replace M := M.drew
      go_region_held3 (fun w' => w'.cell? ⟨w.heap.size, 0, none⟩ = some (.bool n) ∧ w'.cell? ⟨w.heap.size, 1, none⟩ = some (.slice A xs.length c) ∧ w'.cell? ⟨w.heap.size + 1, 0, none⟩ = some (.bool m) ∧ w'.cell? ⟨w.heap.size + 1, 1, none⟩ = some (.slice B ys.length d)) (first | (with_reducible exact ⟨(M.k (i := 3) rfl).both.1, (M.k (i := 3) rfl).both.2.1, (M.k (i := 2) rfl).both.1, (M.k (i := 2) rfl).both.2.1⟩) | (with_reducible exact ⟨((M.alloc _).k (i := 3) rfl).both.1, ((M.alloc _).k (i := 3) rfl).both.2.1, ((M.alloc _).k (i := 2) rfl).both.1, ((M.alloc _).k (i := 2) rfl).both.2.1⟩) | (with_reducible exact ⟨((M.k (i := 3) rfl).away (Nat.ne_of_lt la) _ _).both.1, ((M.k (i := 3) rfl).away (Nat.ne_of_lt la) _ _).both.2.1, ((M.k (i := 2) rfl).away (Nat.ne_of_lt lb) _ _).both.1, ((M.k (i := 2) rfl).away (Nat.ne_of_lt lb) _ _).both.2.1⟩) | go_keep)
        (first | (go_at_call 14; (with_reducible refine (theirs_any _ _ _ _ _).mono ?_); rintro e w3 ⟨rfl, q⟩; (first | ((with_reducible replace M := M.below q); try (replace kx := Blk.below kx q (Nat.le_refl _))) | (have la := (M.k (i := 3) rfl).lt; have lb := (M.k (i := 2) rfl).lt; have lz := M.lt; (with_reducible replace M := (M.alloc _).below q); have kx := (Blk.new _ _ _).below q (Nat.le_refl _)) | (have la := (M0.k (i := 3) rfl).lt; have lb := (M0.k (i := 2) rfl).lt; have lz := M0.lt; (with_reducible replace M := (M0.alloc _).drew.below q); have kx := (Blk.new _ _ _).drew.below q (Nat.le_refl _))); try (obtain ⟨f1, f2, f3, f4⟩ := kx.both)) | (go_at_call 32; (first | (with_reducible refine (smul_any _ _ _ _ _ _ _ _ _ (M.r (i := 3) rfl) (M.r (i := 2) rfl)).mono ?_) | (with_reducible refine (smul_any _ _ _ _ _ _ _ _ _ ((M.alloc _).r (i := 3) rfl) ((M.alloc _).r (i := 2) rfl)).mono ?_)); rintro e w4 ⟨⟨AZ, cZ, rfl, h1⟩, q⟩; (first | ((with_reducible replace M := M.below q); try (replace kx := Blk.below kx q (Nat.le_refl _))) | (have la := (M.k (i := 3) rfl).lt; have lb := (M.k (i := 2) rfl).lt; have lz := M.lt; (with_reducible replace M := (M.alloc _).below q); have kx := (Blk.new _ _ _).below q (Nat.le_refl _))); try (obtain ⟨f1, f2, f3, f4⟩ := kx.both)))
      all_goals (go_wp2_with fail; go_meet; first | exact ⟨_, AZ, cZ, rfl, rfl, (M.addR h1).new _ _⟩ | exact ⟨_, AZ, cZ, rfl, rfl, ((M.addR h1).addK kx).put (Nat.le_of_lt la) (fun k hk => Nat.ne_of_lt (lz k hk)) _ _ _ _⟩)
    case rest =>
      obtain ⟨gu, A3, c3, rfl, rfl, M⟩ := hcut
      rename_i wc2
      obtain ⟨v1, v2, _, _⟩ := (M.k (i := 4) rfl).both
      obtain ⟨v3, v4, _, _⟩ := (M.k (i := 3) rfl).both
      go_wp2_with fail
      refine (rsmul_any _ _ _ _ _ _ _ _ _ (M.r (i := 4) rfl) (M.r (i := 3) rfl)).mono ?_
      rintro e w8 ⟨⟨A4, c4, rfl, h⟩, q⟩
      replace M := ((M.below q).addR h).new 24 #[.bool (smulR n xs m ys).1, .slice A4 (smulR n xs m ys).2.1.length c4]
      clear q h v1 v2 v3 v4
      obtain ⟨v1, v2, _, _⟩ := (M.k (i := 5) rfl).both
      obtain ⟨v3, v4, _, _⟩ := (M.k (i := 4) rfl).both
      go_wp2_with fail
      refine (theirs_any _ _ _ _ _).mono ?_
      rintro e w9 ⟨rfl, q⟩
      replace M := M.below q
      clear q v1 v2 v3 v4
      go_wp2_with fail
      refine (sneg_any _ _ _ _ _ (M.r (i := 5) rfl)).mono ?_
      rintro e w10 ⟨⟨A5, c5, rfl, h⟩, q⟩
      replace M := ((M.below q).addR h).new 27 #[.bool (snegR n xs).1, .slice A5 (snegR n xs).2.1.length c5]
      clear q h
      obtain ⟨v1, v2, _, _⟩ := (M.k (i := 6) rfl).both
      go_wp2_with fail
      refine (rsneg_any _ _ _ _ _ (M.r (i := 6) rfl)).mono ?_
      rintro e w11 ⟨⟨A6, c6, rfl, h⟩, q⟩
      replace M := ((M.below q).addR h).new 24 #[.bool (snegR n xs).1, .slice A6 (snegR n xs).2.1.length c6]
      clear q h v1 v2
      obtain ⟨x0, y0, _, _⟩ := (M.k (i := 0) rfl).both
      obtain ⟨x1, y1, _, _⟩ := (M.k (i := 1) rfl).both
      obtain ⟨x2, y2, _, _⟩ := (M.k (i := 2) rfl).both
      obtain ⟨x3, y3, _, _⟩ := (M.k (i := 3) rfl).both
      obtain ⟨x4, y4, _, _⟩ := (M.k (i := 4) rfl).both
      obtain ⟨x5, y5, _, _⟩ := (M.k (i := 5) rfl).both
      go_wp2_with fail
      clear x0 y0 x1 y1 x2 y2 x3 y3 x4 y4 x5 y5
      generalize w11.alloc (.cells #[.bool (snegR n xs).1, .slice A6 (snegR n xs).2.1.length c6] 24) = W at *
      replace M := M.drew
      obtain ⟨x0, y0, _, _⟩ := (M.k (i := 0) rfl).both
      obtain ⟨x1, y1, _, _⟩ := (M.k (i := 1) rfl).both
      obtain ⟨x2, y2, _, _⟩ := (M.k (i := 2) rfl).both
      obtain ⟨x3, y3, _, _⟩ := (M.k (i := 3) rfl).both
      obtain ⟨x4, y4, _, _⟩ := (M.k (i := 4) rfl).both
      obtain ⟨x5, y5, _, _⟩ := (M.k (i := 5) rfl).both
      go_region_held3 (fun w' => w'.cell? ⟨gx, 0, none⟩ = some (.bool (saddR n xs m ys).1) ∧ w'.cell? ⟨gx, 1, none⟩ = some (.slice A1 (saddR n xs m ys).2.1.length c1) ∧ w'.cell? ⟨w6.heap.size, 0, none⟩ = some (.bool (saddR n xs m ys).1) ∧ w'.cell? ⟨w6.heap.size, 1, none⟩ = some (.slice A2 (saddR n xs m ys).2.1.length c2) ∧ w'.cell? ⟨gu, 0, none⟩ = some (.bool (smulR n xs m ys).1) ∧ w'.cell? ⟨gu, 1, none⟩ = some (.slice A3 (smulR n xs m ys).2.1.length c3) ∧ w'.cell? ⟨w8.heap.size, 0, none⟩ = some (.bool (smulR n xs m ys).1) ∧ w'.cell? ⟨w8.heap.size, 1, none⟩ = some (.slice A4 (smulR n xs m ys).2.1.length c4) ∧ w'.cell? ⟨w10.heap.size, 0, none⟩ = some (.bool (snegR n xs).1) ∧ w'.cell? ⟨w10.heap.size, 1, none⟩ = some (.slice A5 (snegR n xs).2.1.length c5) ∧ w'.cell? ⟨w11.heap.size, 0, none⟩ = some (.bool (snegR n xs).1) ∧ w'.cell? ⟨w11.heap.size, 1, none⟩ = some (.slice A6 (snegR n xs).2.1.length c6)) (first | (with_reducible exact ⟨x5, y5, x4, y4, x3, y3, x2, y2, x1, y1, x0, y0⟩) | go_keep)
        (first | (go_at_call 19; (with_reducible refine (ours_any _ _ _ _ _).mono ?_); rintro e z ⟨rfl, q⟩; replace M := M.below q; obtain ⟨x0, y0, _, _⟩ := (M.k (i := 0) rfl).both; obtain ⟨x1, y1, _, _⟩ := (M.k (i := 1) rfl).both; obtain ⟨x2, y2, _, _⟩ := (M.k (i := 2) rfl).both; obtain ⟨x3, y3, _, _⟩ := (M.k (i := 3) rfl).both; obtain ⟨x4, y4, _, _⟩ := (M.k (i := 4) rfl).both; obtain ⟨x5, y5, _, _⟩ := (M.k (i := 5) rfl).both) | (go_at_call 18; (with_reducible refine (rsame_self (M.r (i := 5) rfl) (M.r (i := 4) rfl) (Nat.le_trans (saddR_len n m xs ys) (by decide))).mono ?_); rintro e z ⟨rfl, q⟩; replace M := M.below q; obtain ⟨x0, y0, _, _⟩ := (M.k (i := 0) rfl).both; obtain ⟨x1, y1, _, _⟩ := (M.k (i := 1) rfl).both; obtain ⟨x2, y2, _, _⟩ := (M.k (i := 2) rfl).both; obtain ⟨x3, y3, _, _⟩ := (M.k (i := 3) rfl).both; obtain ⟨x4, y4, _, _⟩ := (M.k (i := 4) rfl).both; obtain ⟨x5, y5, _, _⟩ := (M.k (i := 5) rfl).both) | (go_at_call 18; (with_reducible refine (rsame_self (M.r (i := 3) rfl) (M.r (i := 2) rfl) (Nat.le_trans (smulR_len n m xs ys) (by decide))).mono ?_); rintro e z ⟨rfl, q⟩; replace M := M.below q; obtain ⟨x0, y0, _, _⟩ := (M.k (i := 0) rfl).both; obtain ⟨x1, y1, _, _⟩ := (M.k (i := 1) rfl).both; obtain ⟨x2, y2, _, _⟩ := (M.k (i := 2) rfl).both; obtain ⟨x3, y3, _, _⟩ := (M.k (i := 3) rfl).both; obtain ⟨x4, y4, _, _⟩ := (M.k (i := 4) rfl).both; obtain ⟨x5, y5, _, _⟩ := (M.k (i := 5) rfl).both) | (go_at_call 18; (with_reducible refine (rsame_self (M.r (i := 1) rfl) (M.r (i := 0) rfl) (Nat.le_trans (snegR_len n ⟨hf1, hox⟩) (by decide))).mono ?_); rintro e z ⟨rfl, q⟩; replace M := M.below q; obtain ⟨x0, y0, _, _⟩ := (M.k (i := 0) rfl).both; obtain ⟨x1, y1, _, _⟩ := (M.k (i := 1) rfl).both; obtain ⟨x2, y2, _, _⟩ := (M.k (i := 2) rfl).both; obtain ⟨x3, y3, _, _⟩ := (M.k (i := 3) rfl).both; obtain ⟨x4, y4, _, _⟩ := (M.k (i := 4) rfl).both; obtain ⟨x5, y5, _, _⟩ := (M.k (i := 5) rfl).both))
      all_goals
        go_wp2
        go_ret
        exact ⟨rfl, M.bel⟩
end Go.Proofs.Ytmhjjjffgpdolaa

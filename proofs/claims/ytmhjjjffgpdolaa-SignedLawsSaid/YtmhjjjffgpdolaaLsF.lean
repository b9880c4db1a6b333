/-
  The walk of the law SignedTexts.
-/
import Derived.Test.YtmhjjjffgpdolaaLsC
import Derived.Test.YtmhjjjffgpdolaaRefQ
set_option linter.unusedSimpArgs false
set_option linter.unusedVariables false
namespace Go.Proofs.Ytmhjjjffgpdolaa
open Go.RowKit Num

theorem els1 {w : World} {n : Bool} {A : Option Addr} {xs : List Nat} {c g t : Nat} (hg : g = w.heap.size) (ha : Rd w A c xs) :
    Els (w.alloc (.cells #[.bool n, .slice A xs.length c] t)) g [⟨n, A, xs, c⟩] := by
  subst hg
  have hk := Blk.new w t #[.bool n, .slice A xs.length c]
  refine ⟨hk.lt, fun i hi => ?_⟩
  match i, hi with
  | 0, _ => exact ⟨(hk.cell 0).trans rfl, (hk.cell 1).trans rfl, ha.alloc _⟩
  | i + 1, hi => exact absurd hi (by simp)
theorem few1 {w : World} {n : Bool} {A : Option Addr} {xs : List Nat} {c g t : Nat} (hg : g = w.heap.size) (ha : Rd w A c xs) :
    Calls Try.prog 12 #[.slice (some ⟨g, 0, none⟩) 1 1] (w.alloc (.cells #[.bool n, .slice A xs.length c] t)) fun e w' => e = .returned (.bool (decide (xs.length ≤ 30))) ∧ Below w.heap.size w w' :=
  (few_any g 1 _ _ (by simp) (els1 hg ha)).mono fun _ _ ⟨h1, h2⟩ => ⟨by rw [h1]; simp [fewL], below_trans (below_alloc1 _ _) h2⟩
theorem parseR_len (l : List UInt8) : (parseR l).1.length ≤ 256 := by
  rcases parseR_cases l with ⟨k, hk, _⟩ | ⟨hk, _, hl⟩
  · rw [hk]; exact Nat.zero_le _
  · rw [hk]; exact hl
theorem sparseR_len (l : List UInt8) : (sparseR l).2.1.length ≤ 256 := by
  unfold sparseR
  split
  · split
    · split
      · exact Nat.zero_le _
      · exact parseR_len _
    · exact Nat.zero_le _
  · exact parseR_len _
set_option maxRecDepth 100000 in
set_option maxHeartbeats 1000000 in
theorem signedTexts_use (w : World) (n : Bool) (A : Option Addr) (c : Nat) (xs : List Nat) (ha : Rd w A c xs) (s : ByteArray) (hs : s.size ≤ maxLen) :
    Calls Try.prog 9 #[iv n A xs.length c, .string s] w fun e w' => e = .returned (.bool true) ∧ Below w.heap.size w w' := by
  unfold maxLen at hs
  have M : Mem w (w.alloc (.cells #[.bool n, .slice A xs.length c] 24)) [(w.heap.size, 24, #[.bool n, .slice A xs.length c])] [(A, c, xs)] := ((Mem.start w).addR ha).new 24 #[.bool n, .slice A xs.length c]
  clear ha
  by_cases hf : xs.length ≤ 30
  case neg =>
    have HF : Hid (decide (xs.length ≤ 30) = false) := decide_eq_false hf
    clear hf
    go_enter Try.func9, Try.ntmps9
    go_wp2_with fail
    refine (salive_any _).mono ?_
    rintro e w1 ⟨rfl, q⟩
    replace M := M.below q
    clear q
    obtain ⟨v1, v2, _, _⟩ := (M.k (i := 0) rfl).both
    go_wp2_with fail
    refine (few1 rfl (M.r (i := 0) rfl)).mono ?_
    rw [HF.out]
    rintro e w2 ⟨rfl, q⟩
    replace M := M.below q
    clear q v1 v2
    go_wp2
    go_ret
    exact ⟨rfl, M.bel⟩
  have HF : Hid (decide (xs.length ≤ 30) = true) := decide_eq_true hf
  by_cases hl : s.size ≤ 300
  case neg =>
    go_enter Try.func9, Try.ntmps9
    go_wp2_with fail
    refine (salive_any _).mono ?_
    rintro e w1 ⟨rfl, q⟩
    replace M := M.below q
    clear q
    obtain ⟨v1, v2, _, _⟩ := (M.k (i := 0) rfl).both
    go_wp2_with fail
    refine (few1 rfl (M.r (i := 0) rfl)).mono ?_
    rw [HF.out]
    rintro e w2 ⟨rfl, q⟩
    replace M := M.below q
    clear q v1 v2
    go_wp2
    go_ret
    exact ⟨rfl, M.bel⟩
  go_enter Try.func9, Try.ntmps9
  go_wp2_with fail
  refine (salive_any _).mono ?_
  rintro e w1 ⟨rfl, q⟩
  replace M := M.below q
  clear q
  obtain ⟨v1, v2, _, _⟩ := (M.k (i := 0) rfl).both
  go_wp2_with fail
  refine (few1 rfl (M.r (i := 0) rfl)).mono ?_
  rw [HF.out]
  rintro e w2 ⟨rfl, q⟩
  replace M := M.below q
  clear q v1 v2
  obtain ⟨v1, v2, _, _⟩ := (M.k (i := 0) rfl).both
  go_wp2_with fail
  refine (theirs_any _ _ _ _ _).mono ?_
  rintro e w3 ⟨rfl, q⟩
  replace M := M.below q
  clear q v1 v2
  go_wp2_with fail
  refine (stext_any _ _ _ _ _ (M.r (i := 0) rfl)).mono ?_
  rintro e w4 ⟨rfl, q⟩
  replace M := M.below q
  clear q
  obtain ⟨v1, v2, _, _⟩ := (M.k (i := 0) rfl).both
  go_wp2_with fail
  refine (rstext_any _ _ _ _ _ (M.r (i := 0) rfl)).mono ?_
  rintro e w5 ⟨rfl, q⟩
  replace M := M.below q
  clear q v1 v2
  go_wp2_with fail
  refine (sparse_any s _ (by omega)).mono ?_
  rintro e w6 ⟨⟨A1, c1, rfl, h⟩, q⟩
  replace M := ((M.below q).addR h).new 27 #[.bool (sparseR s.data.toList).1, .slice A1 (sparseR s.data.toList).2.1.length c1]
  clear q h
  go_wp2_with fail
  refine (rsparse_any s _ (by omega)).mono ?_
  rintro e w7 ⟨⟨A2, c2, rfl, h⟩, q⟩
  replace M := ((M.below q).addR h).new 24 #[.bool (sparseR s.data.toList).1, .slice A2 (sparseR s.data.toList).2.1.length c2]
  clear q h
  go_wp2_with fail
  generalize w7.alloc (.cells #[.bool (sparseR s.data.toList).1, .slice A2 (sparseR s.data.toList).2.1.length c2] 24) = W at *
  replace M := M.drew
  obtain ⟨x1, y1, _, _⟩ := (M.k (i := 1) rfl).both
  obtain ⟨x0, y0, _, _⟩ := (M.k (i := 0) rfl).both
  go_region_held3 (fun w' => w'.cell? ⟨w6.heap.size, 0, none⟩ = some (.bool (sparseR s.data.toList).1) ∧ w'.cell? ⟨w6.heap.size, 1, none⟩ = some (.slice A1 (sparseR s.data.toList).2.1.length c1) ∧ w'.cell? ⟨w7.heap.size, 0, none⟩ = some (.bool (sparseR s.data.toList).1) ∧ w'.cell? ⟨w7.heap.size, 1, none⟩ = some (.slice A2 (sparseR s.data.toList).2.1.length c2)) (first | (with_reducible exact ⟨x1, y1, x0, y0⟩) | go_keep)
    (first | (go_at_call 19; (with_reducible refine (ours_any _ _ _ _ _).mono ?_); rintro e z ⟨rfl, q⟩; replace M := M.below q; obtain ⟨x1, y1, _, _⟩ := (M.k (i := 1) rfl).both; obtain ⟨x0, y0, _, _⟩ := (M.k (i := 0) rfl).both) | (go_at_call 18; (with_reducible refine (rsame_self (M.r (i := 1) rfl) (M.r (i := 0) rfl) (Nat.le_trans (sparseR_len _) (by decide))).mono ?_); rintro e z ⟨rfl, q⟩; replace M := M.below q; obtain ⟨x1, y1, _, _⟩ := (M.k (i := 1) rfl).both; obtain ⟨x0, y0, _, _⟩ := (M.k (i := 0) rfl).both))
  all_goals
    go_wp2
    go_ret
    exact ⟨rfl, M.bel⟩
end Go.Proofs.Ytmhjjjffgpdolaa

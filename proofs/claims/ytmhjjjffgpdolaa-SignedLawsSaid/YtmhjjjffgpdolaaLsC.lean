/-
  The walk of the law SignedMakes.
-/
import Derived.Test.YtmhjjjffgpdolaaLsB
set_option linter.unusedSimpArgs false
set_option linter.unusedVariables false
namespace Go.Proofs.Ytmhjjjffgpdolaa
open Go.RowKit Num

set_option maxRecDepth 100000 in
set_option maxHeartbeats 1000000 in
theorem signedMakes_use (w : World) (n : Bool) (A : Option Addr) (c : Nat) (xs : List Nat) (ha : Rd w A c xs) (m : Bool) (B : Option Addr) (d : Nat) (ys : List Nat) (hb : Rd w B d ys) (z : Int) (hz : (Lit.int .i64 z).wf = true) :
    Calls Try.prog 5 #[iv n A xs.length c, iv m B ys.length d, .int .i64 z] w fun e w' => e = .returned (.bool true) ∧ Below w.heap.size w w' := by
  obtain ⟨z1, z2⟩ := bounds_i64 hz
  have HLZ : Hid ((sD z).length ≤ 1000000) := Nat.le_trans (sD_i64 z1 z2) (by decide)
  clear hz
  have M : Mem w ((w.alloc (.cells #[.bool n, .slice A xs.length c] 24)).alloc (.cells #[.bool m, .slice B ys.length d] 24)) [(w.heap.size + 1, 24, #[.bool m, .slice B ys.length d]), (w.heap.size, 24, #[.bool n, .slice A xs.length c])] [(B, d, ys), (A, c, xs)] :=
    (((((Mem.start w).addR ha).addR hb).new 24 #[.bool n, .slice A xs.length c]).newAt (by simp) 24 #[.bool m, .slice B ys.length d])
  clear ha hb
  by_cases hf : xs.length ≤ 30 ∧ ys.length ≤ 30
  case neg =>
    have HF : Hid (decide (xs.length ≤ 30 ∧ ys.length ≤ 30) = false) := decide_eq_false hf
    clear hf
    go_enter Try.func5, Try.ntmps5
    go_wp2_with fail
    refine (salive_any _).mono ?_
    rintro e w1 ⟨rfl, q⟩
    replace M := M.below q
    clear q
    obtain ⟨v1, v2, _, _⟩ := (M.k (i := 1) rfl).both
    obtain ⟨v3, v4, _, _⟩ := (M.k (i := 0) rfl).both
    go_wp2_with fail
    refine (few2 rfl (M.r (i := 1) rfl) (M.r (i := 0) rfl)).mono ?_
    rw [HF.out]
    rintro e w2 ⟨rfl, q⟩
    replace M := M.below q
    clear q v1 v2 v3 v4
    go_wp2
    go_ret
    exact ⟨rfl, M.bel⟩
  have HF : Hid (decide (xs.length ≤ 30 ∧ ys.length ≤ 30) = true) := decide_eq_true hf
  have hf1 := hf.1
  have hf2 := hf.2
  clear hf
  go_enter Try.func5, Try.ntmps5
  go_wp2_with fail
  refine (salive_any _).mono ?_
  rintro e w1 ⟨rfl, q⟩
  replace M := M.below q
  clear q
  obtain ⟨v1, v2, _, _⟩ := (M.k (i := 1) rfl).both
  obtain ⟨v3, v4, _, _⟩ := (M.k (i := 0) rfl).both
  go_wp2_with fail
  refine (few2 rfl (M.r (i := 1) rfl) (M.r (i := 0) rfl)).mono ?_
  rw [HF.out]
  rintro e w2 ⟨rfl, q⟩
  replace M := M.below q
  clear q v1 v2 v3 v4
  obtain ⟨v1, v2, _, _⟩ := (M.k (i := 1) rfl).both
  go_wp2_with fail
  refine (theirs_any _ _ _ _ _).mono ?_
  rintro e w3 ⟨rfl, q⟩
  replace M := M.below q
  clear q v1 v2
  go_wp2_with fail
  refine (ssmall_any _ _ _ _ _ (M.r (i := 1) rfl)).mono ?_
  rintro e w4 ⟨rfl, q⟩
  replace M := M.below q
  clear q
  obtain ⟨v1, v2, _, _⟩ := (M.k (i := 1) rfl).both
  go_wp2_with fail
  refine (rssmall_any _ _ _ _ _ (M.r (i := 1) rfl)).mono ?_
  rintro e w5 ⟨rfl, q⟩
  replace M := M.below q
  clear q v1 v2
  obtain ⟨v1, v2, _, _⟩ := (M.k (i := 1) rfl).both
  obtain ⟨v3, v4, _, _⟩ := (M.k (i := 0) rfl).both
  go_wp2_with fail
  replace M := M.drew
  obtain ⟨x1, y1, _, _⟩ := (M.k (i := 1) rfl).both
  obtain ⟨x0, y0, _, _⟩ := (M.k (i := 0) rfl).both
  go_region_held3 (fun w' => w'.cell? ⟨w.heap.size, 0, none⟩ = some (.bool n) ∧ w'.cell? ⟨w.heap.size, 1, none⟩ = some (.slice A xs.length c) ∧ w'.cell? ⟨w.heap.size + 1, 0, none⟩ = some (.bool m) ∧ w'.cell? ⟨w.heap.size + 1, 1, none⟩ = some (.slice B ys.length d)) (first | (with_reducible exact ⟨x1, y1, x0, y0⟩) | go_keep)
    (first | (go_at_call 14; (with_reducible refine (theirs_any _ _ _ _ _).mono ?_); rintro e z9 ⟨rfl, q⟩; replace M := M.below q; obtain ⟨x1, y1, _, _⟩ := (M.k (i := 1) rfl).both; obtain ⟨x0, y0, _, _⟩ := (M.k (i := 0) rfl).both) | (go_at_call 24; (with_reducible refine (scmp_any _ _ _ _ _ _ _ _ _ (M.r (i := 1) rfl) (M.r (i := 0) rfl)).mono ?_); rintro e z9 ⟨rfl, q⟩; replace M := M.below q; obtain ⟨x1, y1, _, _⟩ := (M.k (i := 1) rfl).both; obtain ⟨x0, y0, _, _⟩ := (M.k (i := 0) rfl).both))
  go_wp2_with fail
  refine (rscmp_any _ _ _ _ _ _ _ _ _ (M.r (i := 1) rfl) (M.r (i := 0) rfl)).mono ?_
  rintro e w6 ⟨rfl, q⟩
  replace M := M.below q
  clear q
  obtain ⟨v1, v2, _, _⟩ := (M.k (i := 1) rfl).both
  go_wp2_with fail
  replace M := M.drew
  obtain ⟨x1, y1, _, _⟩ := (M.k (i := 1) rfl).both
  go_region_held3 (fun w' => w'.cell? ⟨w.heap.size, 0, none⟩ = some (.bool n) ∧ w'.cell? ⟨w.heap.size, 1, none⟩ = some (.slice A xs.length c)) (first | (with_reducible exact ⟨x1, y1⟩) | go_keep)
    (first | (go_at_call 14; (with_reducible refine (theirs_any _ _ _ _ _).mono ?_); rintro e z9 ⟨rfl, q⟩; replace M := M.below q; obtain ⟨x1, y1, _, _⟩ := (M.k (i := 1) rfl).both; obtain ⟨x0, y0, _, _⟩ := (M.k (i := 0) rfl).both) | (go_at_call 26; (with_reducible refine (sright_any _ _ _ _ _ (M.r (i := 1) rfl)).mono ?_); rintro e z9 ⟨rfl, q⟩; replace M := M.below q; obtain ⟨x1, y1, _, _⟩ := (M.k (i := 1) rfl).both; obtain ⟨x0, y0, _, _⟩ := (M.k (i := 0) rfl).both) | (go_at_call 27; (with_reducible refine (srright_any _ _ _ _ _ (M.r (i := 1) rfl)).mono ?_); rintro e z9 ⟨rfl, q⟩; replace M := M.below q; obtain ⟨x1, y1, _, _⟩ := (M.k (i := 1) rfl).both; obtain ⟨x0, y0, _, _⟩ := (M.k (i := 0) rfl).both) | (go_at_call 28; (with_reducible refine (sof_any z _ z1 z2).mono ?_); rintro e z9 ⟨⟨A7, c7, rfl, h7⟩, q⟩; replace M := M.below q; obtain ⟨x1, y1, _, _⟩ := (M.k (i := 1) rfl).both; obtain ⟨x0, y0, _, _⟩ := (M.k (i := 0) rfl).both) | (go_at_call 19; (with_reducible refine (ours_any _ _ _ _ _).mono ?_); rintro e z9 ⟨rfl, q⟩; replace M := M.below q; replace h7 := h7.below q (Nat.le_refl _); obtain ⟨x1, y1, _, _⟩ := (M.k (i := 1) rfl).both; obtain ⟨x0, y0, _, _⟩ := (M.k (i := 0) rfl).both) | (go_at_call 29; (with_reducible refine (rsof_any z _ z1 z2).mono ?_); rintro e z9 ⟨⟨A8, c8, rfl, h8⟩, q⟩; replace M := M.below q; replace h7 := h7.below q (Nat.le_refl _); obtain ⟨x1, y1, _, _⟩ := (M.k (i := 1) rfl).both; obtain ⟨x0, y0, _, _⟩ := (M.k (i := 0) rfl).both) | (go_at_call 18; (with_reducible refine (rsame_self h7 h8 HLZ.out).mono ?_); rintro e z9 ⟨rfl, q⟩; replace M := M.below q; obtain ⟨x1, y1, _, _⟩ := (M.k (i := 1) rfl).both; obtain ⟨x0, y0, _, _⟩ := (M.k (i := 0) rfl).both))
  all_goals
    go_wp2
    go_ret
    exact ⟨rfl, M.bel⟩
end Go.Proofs.Ytmhjjjffgpdolaa

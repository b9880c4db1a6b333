/-
  The walks of the laws NatDivs, NatSums, NatMuls, NatMakes (as far as they need no more), NatOrder, NatLaws.
-/
import Derived.Test.YtllecomieolamaaNatQ
namespace Go.Proofs.Ytllecomieolamaa
open Go.RowKit Num

theorem Rd.len {w : World} {A : Option Addr} {c : Nat} {xs : List Nat} (h : Rd w A c xs) : xs.length ≤ 9223372036854775807 := by
  have h1 := h.room
  have h2 := h.cap
  unfold maxLen at h2
  omega
theorem divR_len {xs ys : List Nat} (h1 : xs.length ≤ 40) (_ : ys.length ≤ 40) (ho : Ok xs) (_ : Ok ys) : (divR xs ys).1.length ≤ 40 ∧ (divR xs ys).2.1.length ≤ 40 := by
  unfold divR
  split
  · refine ⟨?_, ?_⟩
    · exact Nat.le_trans (dig_len_mono (Nat.div_le_self _ _)) (Nat.le_trans (dig_len_le xs ho) h1)
    · exact Nat.le_trans (dig_len_mono (Nat.mod_le _ _)) (Nat.le_trans (dig_len_le xs ho) h1)
  · exact ⟨Nat.zero_le _, Nat.zero_le _⟩


set_option maxRecDepth 100000 in
set_option maxHeartbeats 1000000 in
theorem natDivs_walk (A B : Option Addr) (c d : Nat) (xs ys : List Nat) (w : World) (ha : Rd w A c xs) (hb : Rd w B d ys) :
    Calls Try.prog 3 #[.slice A xs.length c, .slice B ys.length d] w fun e w' => e = .returned (.bool true) ∧ Below w.heap.size w w' := by
  have hl1 := ha.len
  have hl2 := hb.len
  by_cases hf : xs.length ≤ 40 ∧ ys.length ≤ 40
  case neg =>
    have HF : Hid (decide (xs.length ≤ 40 ∧ ys.length ≤ 40) = false) := decide_eq_false hf
    clear hf
    go_enter Try.func3, Try.ntmps3
    go_wp2_with fail
    refine (alive_any w).mono ?_
    rintro e w1 ⟨rfl, hb1⟩
    go_wp2_with fail
    refine (few_any A B c d xs.length ys.length w1 hl1 hl2).mono ?_
    rintro e w2 ⟨rfl, rfl⟩
    rw [HF.out]
    go_wp2
    go_ret
    exact ⟨rfl, hb1⟩
  have HF : Hid (decide (xs.length ≤ 40 ∧ ys.length ≤ 40) = true) := decide_eq_true hf
  obtain ⟨hf1, hf2⟩ := hf
  go_enter Try.func3, Try.ntmps3
  go_wp2_with fail
  refine (alive_any w).mono ?_
  rintro e w1 ⟨rfl, hb1⟩
  have ha1 := ha.below hb1 (Nat.le_refl _)
  have hb1' := hb.below hb1 (Nat.le_refl _)
  go_wp2_with fail
  refine (few_any A B c d xs.length ys.length w1 hl1 hl2).mono ?_
  rintro e w2 ⟨rfl, rfl⟩
  rw [HF.out]
  obtain ⟨q1, q2⟩ := divR_len hf1 hf2 ha.ok hb.ok
  go_wp2_with fail
  refine (divmod_any A B c d xs ys w1 ha1 hb1').mono ?_
  rintro e w3 ⟨⟨A3, c3, A4, c4, rfl, hr3, hr4⟩, hb3⟩
  have ha3 := ha1.below hb3 (Nat.le_refl _)
  have hb3' := hb1'.below hb3 (Nat.le_refl _)
  go_wp2_with fail
  refine (rdivmod_any A B c d xs ys w3 ha3 hb3').mono ?_
  rintro e w4 ⟨⟨A5, c5, A6, c6, rfl, hr5, hr6⟩, hb4⟩
  have hr3' := hr3.below hb4 (Nat.le_refl _)
  have hr4' := hr4.below hb4 (Nat.le_refl _)
  have hbel : Below w.heap.size w w4 := hb1.trans ((hb3.mono hb1.size).trans (hb4.mono (Nat.le_trans hb1.size hb3.size)))
  generalize divR xs ys = r at *
  go_wp2_with fail
  refine (same_any A3 A5 c3 c5 r.1 r.1 w4 hr3' hr5 (by omega) (by omega)).mono ?_
  rintro e w5 ⟨rfl, n5, rfl⟩
  go_wp2_with fail
  refine (same_any A4 A6 c4 c6 r.2.1 r.2.1 _ (hr4'.drewN _) (hr6.drewN _) (by omega) (by omega)).mono ?_
  rintro e w6 ⟨rfl, n6, rfl⟩
  go_wp2
  go_ret
  exact ⟨rfl, hbel.trans ((Read.refl w4).drewN _ |>.below _)⟩

theorem natDivs_use (w : World) (A : Option Addr) (c : Nat) (xs : List Nat) (ha : Rd w A c xs) (B : Option Addr) (d : Nat) (ys : List Nat) (hb : Rd w B d ys) :
    Calls Try.prog 3 #[.slice A xs.length c, .slice B ys.length d] w fun e w' => e = .returned (.bool true) ∧ Below w.heap.size w w' := natDivs_walk A B c d xs ys w ha hb

end Go.Proofs.Ytllecomieolamaa

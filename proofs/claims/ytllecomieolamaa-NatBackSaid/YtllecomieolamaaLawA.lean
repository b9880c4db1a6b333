/-
  The walks of the laws NatSums and NatMuls.
-/
import Derived.Test.YtllecomieolamaaNatR
namespace Go.Proofs.Ytllecomieolamaa
open Go.RowKit Num

theorem fitR_len (n : Nat) : (fitR n).1.length ≤ 256 := by
  unfold fitR
  split
  · assumption
  · exact Nat.zero_le _
theorem addR_len (xs ys : List Nat) : (addR xs ys).1.length ≤ 256 := by
  unfold addR
  split
  · exact fitR_len _
  · exact Nat.zero_le _
theorem mulR_len (xs ys : List Nat) : (mulR xs ys).1.length ≤ 256 := by
  unfold mulR
  split
  · exact fitR_len _
  · exact Nat.zero_le _
theorem subR_len {xs ys : List Nat} (ho : Ok xs) (h : xs.length ≤ 256) : (subR xs ys).1.length ≤ 256 := by
  unfold subR
  split
  · exact Nat.le_trans (dig_len_mono (Nat.sub_le _ _)) (Nat.le_trans (dig_len_le xs ho) h)
  · exact Nat.zero_le _


set_option maxRecDepth 100000 in
set_option maxHeartbeats 1000000 in
theorem natMuls_use (w : World) (A : Option Addr) (c : Nat) (xs : List Nat) (ha : Rd w A c xs) (B : Option Addr) (d : Nat) (ys : List Nat) (hb : Rd w B d ys) :
    Calls Try.prog 5 #[.slice A xs.length c, .slice B ys.length d] w fun e w' => e = .returned (.bool true) ∧ Below w.heap.size w w' := by
  have hl1 := ha.len
  have hl2 := hb.len
  by_cases hf : xs.length ≤ 40 ∧ ys.length ≤ 40
  case neg =>
    have HF : Hid (decide (xs.length ≤ 40 ∧ ys.length ≤ 40) = false) := decide_eq_false hf
    clear hf
    go_enter Try.func5, Try.ntmps5
    go_wp2_with fail
    refine (alive_any w).mono ?_
    rintro e w1 ⟨rfl, hb1⟩
    go_wp2_with fail
    refine (few_any A B c d xs.length ys.length w1 hl1 hl2).mono ?_
    rintro e w2 ⟨rfl, rfl⟩
    rw [HF.out]
    go_wp2
    go_ret
    exact ⟨rfl, hb1⟩
  have HF : Hid (decide (xs.length ≤ 40 ∧ ys.length ≤ 40) = true) := decide_eq_true hf
  obtain ⟨hf1, hf2⟩ := hf
  go_enter Try.func5, Try.ntmps5
  go_wp2_with fail
  refine (alive_any w).mono ?_
  rintro e w1 ⟨rfl, hb1⟩
  have ha1 := ha.below hb1 (Nat.le_refl _)
  have hb1' := hb.below hb1 (Nat.le_refl _)
  go_wp2_with fail
  refine (few_any A B c d xs.length ys.length w1 hl1 hl2).mono ?_
  rintro e w2 ⟨rfl, rfl⟩
  rw [HF.out]
  have q1 := mulR_len xs ys
  go_wp2_with fail
  refine (mul_any A B c d xs ys w1 ha1 hb1').mono ?_
  rintro e w3 ⟨⟨A3, c3, rfl, hr3⟩, hb3⟩
  have ha3 := ha1.below hb3 (Nat.le_refl _)
  have hb3' := hb1'.below hb3 (Nat.le_refl _)
  go_wp2_with fail
  refine (rmul_any A B c d xs ys w3 ha3 hb3').mono ?_
  rintro e w4 ⟨⟨A5, c5, rfl, hr5⟩, hb4⟩
  have hr3' := hr3.below hb4 (Nat.le_refl _)
  have hbel : Below w.heap.size w w4 := hb1.trans ((hb3.mono hb1.size).trans (hb4.mono (Nat.le_trans hb1.size hb3.size)))
  generalize mulR xs ys = r at *
  go_wp2_with fail
  refine (same_any A3 A5 c3 c5 r.1 r.1 w4 hr3' hr5 (by omega) (by omega)).mono ?_
  rintro e w5 ⟨rfl, n5, rfl⟩
  go_wp2
  go_ret
  exact ⟨rfl, hbel.trans ((Read.refl w4).drewN _ |>.below _)⟩

set_option maxRecDepth 100000 in
set_option maxHeartbeats 1000000 in
theorem natSums_use (w : World) (A : Option Addr) (c : Nat) (xs : List Nat) (ha : Rd w A c xs) (B : Option Addr) (d : Nat) (ys : List Nat) (hb : Rd w B d ys) :
    Calls Try.prog 4 #[.slice A xs.length c, .slice B ys.length d] w fun e w' => e = .returned (.bool true) ∧ Below w.heap.size w w' := by
  have hl1 := ha.len
  have hl2 := hb.len
  by_cases hf : xs.length ≤ 40 ∧ ys.length ≤ 40
  case neg =>
    have HF : Hid (decide (xs.length ≤ 40 ∧ ys.length ≤ 40) = false) := decide_eq_false hf
    clear hf
    go_enter Try.func4, Try.ntmps4
    go_wp2_with fail
    refine (alive_any w).mono ?_
    rintro e w1 ⟨rfl, hb1⟩
    go_wp2_with fail
    refine (few_any A B c d xs.length ys.length w1 hl1 hl2).mono ?_
    rintro e w2 ⟨rfl, rfl⟩
    rw [HF.out]
    go_wp2
    go_ret
    exact ⟨rfl, hb1⟩
  have HF : Hid (decide (xs.length ≤ 40 ∧ ys.length ≤ 40) = true) := decide_eq_true hf
  obtain ⟨hf1, hf2⟩ := hf
  go_enter Try.func4, Try.ntmps4
  go_wp2_with fail
  refine (alive_any w).mono ?_
  rintro e w1 ⟨rfl, hb1⟩
  have ha1 := ha.below hb1 (Nat.le_refl _)
  have hb1' := hb.below hb1 (Nat.le_refl _)
  go_wp2_with fail
  refine (few_any A B c d xs.length ys.length w1 hl1 hl2).mono ?_
  rintro e w2 ⟨rfl, rfl⟩
  rw [HF.out]
  have q1 := addR_len xs ys
  have q2 := subR_len (ys := ys) ha.ok (by omega : xs.length ≤ 256)
  go_wp2_with fail
  refine (add_any A B c d xs ys w1 ha1 hb1').mono ?_
  rintro e w3 ⟨⟨A3, c3, rfl, hr3⟩, hb3⟩
  have ha3 := ha1.below hb3 (Nat.le_refl _)
  have hb3' := hb1'.below hb3 (Nat.le_refl _)
  have hbel3 : Below w.heap.size w w3 := hb1.trans (hb3.mono hb1.size)
  clear hb3
  go_wp2_with fail
  refine (radd_any A B c d xs ys w3 ha3 hb3').mono ?_
  rintro e w4 ⟨⟨A4, c4, rfl, hr4⟩, hb4⟩
  have hr3' := hr3.below hb4 (Nat.le_refl _)
  have ha4 := ha3.below hb4 (Nat.le_refl _)
  have hb4' := hb3'.below hb4 (Nat.le_refl _)
  have hbel4 : Below w.heap.size w w4 := hbel3.trans (hb4.mono hbel3.size)
  clear hb4 hr3
  generalize addR xs ys = r at *
  go_wp2_with fail
  refine (sub_any A B c d xs ys w4 ha4 hb4').mono ?_
  rintro e w5 ⟨⟨A5, c5, rfl, hr5⟩, hb5⟩
  have hr3 := hr3'.below hb5 (Nat.le_refl _)
  have hr4' := hr4.below hb5 (Nat.le_refl _)
  have ha5 := ha4.below hb5 (Nat.le_refl _)
  have hb5' := hb4'.below hb5 (Nat.le_refl _)
  have hbel5 : Below w.heap.size w w5 := hbel4.trans (hb5.mono hbel4.size)
  clear hb5 hr3' hr4
  go_wp2_with fail
  refine (rsub_any A B c d xs ys w5 ha5 hb5').mono ?_
  rintro e w6 ⟨⟨A6, c6, rfl, hr6⟩, hb6⟩
  have hr3' := hr3.below hb6 (Nat.le_refl _)
  have hr4 := hr4'.below hb6 (Nat.le_refl _)
  have hr5' := hr5.below hb6 (Nat.le_refl _)
  have hbel6 : Below w.heap.size w w6 := hbel5.trans (hb6.mono hbel5.size)
  generalize subR xs ys = t at *
  go_wp2_with fail
  refine (same_any A3 A4 c3 c4 r.1 r.1 w6 hr3' hr4 (by omega) (by omega)).mono ?_
  rintro e w7 ⟨rfl, n7, rfl⟩
  go_wp2_with fail
  refine (same_any A5 A6 c5 c6 t.1 t.1 _ (hr5'.drewN _) (hr6.drewN _) (by omega) (by omega)).mono ?_
  rintro e w8 ⟨rfl, n8, rfl⟩
  go_wp2
  go_ret
  exact ⟨rfl, hbel6.trans ((Read.refl w6).drewN _ |>.below _)⟩

end Go.Proofs.Ytllecomieolamaa

/-
  The walk of the law NatLaws.
-/
import Derived.Test.YtllecomieolamaaLawB
namespace Go.Proofs.Ytllecomieolamaa
open Go.RowKit Num

theorem mul_dig {m n k l : Nat} (h1 : (dig m).length ≤ k) (h2 : (dig n).length ≤ l) (_hk : k ≤ 256) (_hl : l ≤ 256) (hs : k + l ≤ 256) : mulR (dig m) (dig n) = (dig (m * n), 0) ∧ (dig (m * n)).length ≤ k + l := by
  have := prod_len (le_of_dig_length h1) (le_of_dig_length h2)
  refine ⟨?_, this⟩
  rw [mulR_eq (right_dig' (by omega)) (right_dig' (by omega)), val_dig, val_dig, fitR_le (by omega)]
theorem add_dig {m n k : Nat} (h1 : (dig m).length ≤ k) (h2 : (dig n).length ≤ k) (hk : k ≤ 255) : addR (dig m) (dig n) = (dig (m + n), 0) ∧ (dig (m + n)).length ≤ k + 1 := by
  have := sum_len_le h1 h2
  refine ⟨?_, this⟩
  rw [addR_eq (right_dig' (by omega)) (right_dig' (by omega)), val_dig, val_dig, fitR_le (by omega)]


set_option maxRecDepth 100000 in
set_option maxHeartbeats 1000000 in
theorem natLaws_use (w : World) (A : Option Addr) (c : Nat) (xs : List Nat) (ha : Rd w A c xs) (B : Option Addr) (d : Nat) (ys : List Nat) (hb : Rd w B d ys) (C : Option Addr) (f : Nat) (zs : List Nat) (hc : Rd w C f zs) :
    Calls Try.prog 6 #[.slice A xs.length c, .slice B ys.length d, .slice C zs.length f] w fun e w' => e = .returned (.bool true) ∧ Below w.heap.size w w' := by
  have hl1 := ha.len
  have hl2 := hb.len
  have hl3 := hc.len
  by_cases hf : xs.length ≤ 40 ∧ ys.length ≤ 40
  case neg =>
    have HF : Hid (decide (xs.length ≤ 40 ∧ ys.length ≤ 40) = false) := decide_eq_false hf
    clear hf
    go_enter Try.func6, Try.ntmps6
    go_wp2_with fail
    refine (alive_any w).mono ?_
    rintro e w1 ⟨rfl, hb1⟩
    have ha1 := ha.below hb1 (Nat.le_refl _)
    have hb1' := hb.below hb1 (Nat.le_refl _)
    have hc1 := hc.below hb1 (Nat.le_refl _)
    go_wp2_with fail
    refine (few_any A B c d xs.length ys.length w1 hl1 hl2).mono ?_
    rintro e w2 ⟨rfl, rfl⟩
    rw [HF.out]
    go_wp2
    go_ret
    exact ⟨rfl, hb1⟩
  have HF : Hid (decide (xs.length ≤ 40 ∧ ys.length ≤ 40) = true) := decide_eq_true hf
  obtain ⟨hf1, hf2⟩ := hf
  by_cases hf3 : zs.length ≤ 40
  case neg =>
    have hf3' : 40 < (zs.length : Int) := by omega
    clear hf3
    go_enter Try.func6, Try.ntmps6
    go_wp2_with fail
    refine (alive_any w).mono ?_
    rintro e w1 ⟨rfl, hb1⟩
    have ha1 := ha.below hb1 (Nat.le_refl _)
    have hb1' := hb.below hb1 (Nat.le_refl _)
    have hc1 := hc.below hb1 (Nat.le_refl _)
    go_wp2_with fail
    refine (few_any A B c d xs.length ys.length w1 hl1 hl2).mono ?_
    rintro e w2 ⟨rfl, rfl⟩
    rw [HF.out]
    go_wp2
    go_ret
    exact ⟨rfl, hb1⟩
  by_cases h1 : rightB xs = true
  case neg =>
    have h1' : rightB xs = false := by simpa using h1
    clear h1
    go_enter Try.func6, Try.ntmps6
    go_wp2_with fail
    refine (alive_any w).mono ?_
    rintro e w1 ⟨rfl, hb1⟩
    have ha1 := ha.below hb1 (Nat.le_refl _)
    have hb1' := hb.below hb1 (Nat.le_refl _)
    have hc1 := hc.below hb1 (Nat.le_refl _)
    go_wp2_with fail
    refine (few_any A B c d xs.length ys.length w1 hl1 hl2).mono ?_
    rintro e w2 ⟨rfl, rfl⟩
    rw [HF.out]
    go_wp2_with fail
    refine (right_any A c xs w1 ha1).mono ?_
    rintro e w2 ⟨rfl, rfl⟩
    rw [h1']
    go_wp2
    go_ret
    exact ⟨rfl, hb1⟩
  by_cases h2 : rightB ys = true
  case neg =>
    have h2' : rightB ys = false := by simpa using h2
    clear h2
    go_enter Try.func6, Try.ntmps6
    go_wp2_with fail
    refine (alive_any w).mono ?_
    rintro e w1 ⟨rfl, hb1⟩
    have ha1 := ha.below hb1 (Nat.le_refl _)
    have hb1' := hb.below hb1 (Nat.le_refl _)
    have hc1 := hc.below hb1 (Nat.le_refl _)
    go_wp2_with fail
    refine (few_any A B c d xs.length ys.length w1 hl1 hl2).mono ?_
    rintro e w2 ⟨rfl, rfl⟩
    rw [HF.out]
    go_wp2_with fail
    refine (right_any A c xs w1 ha1).mono ?_
    rintro e w2 ⟨rfl, rfl⟩
    rw [h1]
    go_wp2_with fail
    refine (right_any B d ys w1 hb1').mono ?_
    rintro e w2 ⟨rfl, rfl⟩
    rw [h2']
    go_wp2
    go_ret
    exact ⟨rfl, hb1⟩
  by_cases h3 : rightB zs = true
  case neg =>
    have h3' : rightB zs = false := by simpa using h3
    clear h3
    go_enter Try.func6, Try.ntmps6
    go_wp2_with fail
    refine (alive_any w).mono ?_
    rintro e w1 ⟨rfl, hb1⟩
    have ha1 := ha.below hb1 (Nat.le_refl _)
    have hb1' := hb.below hb1 (Nat.le_refl _)
    have hc1 := hc.below hb1 (Nat.le_refl _)
    go_wp2_with fail
    refine (few_any A B c d xs.length ys.length w1 hl1 hl2).mono ?_
    rintro e w2 ⟨rfl, rfl⟩
    rw [HF.out]
    go_wp2_with fail
    refine (right_any A c xs w1 ha1).mono ?_
    rintro e w2 ⟨rfl, rfl⟩
    rw [h1]
    go_wp2_with fail
    refine (right_any B d ys w1 hb1').mono ?_
    rintro e w2 ⟨rfl, rfl⟩
    rw [h2]
    go_wp2_with fail
    refine (right_any C f zs w1 hc1).mono ?_
    rintro e w2 ⟨rfl, rfl⟩
    rw [h3']
    go_wp2
    go_ret
    exact ⟨rfl, hb1⟩
  have hd1 := right_dig ha.ok h1
  have hd2 := right_dig hb.ok h2
  have hd3 := right_dig hc.ok h3
  generalize val xs = a at hd1
  generalize val ys = b at hd2
  generalize val zs = z at hd3
  subst hd1 hd2 hd3
  have E1 := add_dig hf1 hf2 (by decide)
  have E2 := add_dig hf2 hf1 (by decide)
  rw [Nat.add_comm b a] at E2
  have E3 := mul_dig E1.2 hf3 (by decide) (by decide) (by decide)
  have E4 := mul_dig hf1 hf3 (by decide) (by decide) (by decide)
  have E5 := mul_dig hf3 hf2 (by decide) (by decide) (by decide)
  have E6 := add_dig E4.2 E5.2 (by decide)
  have e7 : a * z + z * b = (a + b) * z := by rw [Nat.add_mul, Nat.mul_comm z b]
  rw [e7] at E6
  have m1 := E1.2
  have m2 := E3.2
  have HE := Lib.hid (And.intro E1.1 (And.intro E2.1 (And.intro E3.1 (And.intro E4.1 (And.intro E5.1 E6.1)))))
  have HR := Lib.hid (And.intro h1 (And.intro h2 h3))
  clear E1 E2 E3 E4 E5 E6 e7 h1 h2 h3
  go_enter Try.func6, Try.ntmps6
  go_wp2_with fail
  refine (alive_any w).mono ?_
  rintro e w1 ⟨rfl, hb1⟩
  have ha1 := ha.below hb1 (Nat.le_refl _)
  have hb1' := hb.below hb1 (Nat.le_refl _)
  have hc1 := hc.below hb1 (Nat.le_refl _)
  go_wp2_with fail
  refine (few_any A B c d _ _ w1 hl1 hl2).mono ?_
  rintro e w2 ⟨rfl, rfl⟩
  rw [HF.out]
  go_wp2_with fail
  refine (right_any A c _ w1 ha1).mono ?_
  rintro e w2 ⟨rfl, rfl⟩
  rw [HR.out.1]
  go_wp2_with fail
  refine (right_any B d _ w1 hb1').mono ?_
  rintro e w2 ⟨rfl, rfl⟩
  rw [HR.out.2.1]
  go_wp2_with fail
  refine (right_any C f _ w1 hc1).mono ?_
  rintro e w2 ⟨rfl, rfl⟩
  rw [HR.out.2.2]
  go_wp2_with fail
  refine (add_any A B c d _ _ w1 ha1 hb1').mono ?_
  rintro e w2 ⟨⟨A2, c2, rfl, r2⟩, b2⟩
  rw [HE.out.1] at r2 ⊢
  have ha2 := ha1.below b2 (Nat.le_refl _)
  have hb2 := hb1'.below b2 (Nat.le_refl _)
  have hc2 := hc1.below b2 (Nat.le_refl _)
  have be2 : Below w.heap.size w w2 := hb1.trans (b2.mono hb1.size)
  clear b2 ha1 hb1' hc1 hb1
  go_wp2_with fail
  refine (add_any B A d c _ _ w2 hb2 ha2).mono ?_
  rintro e w3 ⟨⟨A3, c3, rfl, r3⟩, b3⟩
  rw [HE.out.2.1] at r3 ⊢
  have ha3 := ha2.below b3 (Nat.le_refl _)
  have hb3 := hb2.below b3 (Nat.le_refl _)
  have hc3 := hc2.below b3 (Nat.le_refl _)
  have r2' := r2.below b3 (Nat.le_refl _)
  have be3 : Below w.heap.size w w3 := be2.trans (b3.mono be2.size)
  clear b3 ha2 hb2 hc2 be2 r2
  go_wp2_with fail
  refine (mul_any A2 C c2 f _ _ w3 r2' hc3).mono ?_
  rintro e w4 ⟨⟨A4, c4, rfl, r4⟩, b4⟩
  rw [HE.out.2.2.1] at r4 ⊢
  have ha4 := ha3.below b4 (Nat.le_refl _)
  have hb4 := hb3.below b4 (Nat.le_refl _)
  have hc4 := hc3.below b4 (Nat.le_refl _)
  have r2 := r2'.below b4 (Nat.le_refl _)
  have r3' := r3.below b4 (Nat.le_refl _)
  have be4 : Below w.heap.size w w4 := be3.trans (b4.mono be3.size)
  clear b4 ha3 hb3 hc3 be3 r2' r3
  go_wp2_with fail
  refine (mul_any A C c f _ _ w4 ha4 hc4).mono ?_
  rintro e w5 ⟨⟨A5, c5, rfl, r5⟩, b5⟩
  rw [HE.out.2.2.2.1] at r5 ⊢
  have hb5 := hb4.below b5 (Nat.le_refl _)
  have hc5 := hc4.below b5 (Nat.le_refl _)
  have r2' := r2.below b5 (Nat.le_refl _)
  have r3 := r3'.below b5 (Nat.le_refl _)
  have r4' := r4.below b5 (Nat.le_refl _)
  have be5 : Below w.heap.size w w5 := be4.trans (b5.mono be4.size)
  clear b5 ha4 hb4 hc4 be4 r2 r3' r4
  go_wp2_with fail
  refine (mul_any C B f d _ _ w5 hc5 hb5).mono ?_
  rintro e w6 ⟨⟨A6, c6, rfl, r6⟩, b6⟩
  rw [HE.out.2.2.2.2.1] at r6 ⊢
  have r2 := r2'.below b6 (Nat.le_refl _)
  have r3' := r3.below b6 (Nat.le_refl _)
  have r4 := r4'.below b6 (Nat.le_refl _)
  have r5' := r5.below b6 (Nat.le_refl _)
  have be6 : Below w.heap.size w w6 := be5.trans (b6.mono be5.size)
  clear b6 hb5 hc5 be5 r2' r3 r4' r5
  go_wp2_with fail
  refine (add_any A5 A6 c5 c6 _ _ w6 r5' r6).mono ?_
  rintro e w7 ⟨⟨A7, c7, rfl, r7⟩, b7⟩
  rw [HE.out.2.2.2.2.2] at r7 ⊢
  have r2' := r2.below b7 (Nat.le_refl _)
  have r3 := r3'.below b7 (Nat.le_refl _)
  have r4' := r4.below b7 (Nat.le_refl _)
  have be7 : Below w.heap.size w w7 := be6.trans (b7.mono be6.size)
  clear b7 be6 r2 r3' r4 r5' r6
  go_wp2_with fail
  refine (same_any A2 A3 c2 c3 _ _ w7 r2' r3 (by omega) (by omega)).mono ?_
  rintro e w8 ⟨rfl, n8, rfl⟩
  go_wp2_with fail
  refine (same_any A4 A7 c4 c7 _ _ _ (r4'.drewN n8) (r7.drewN n8) (by omega) (by omega)).mono ?_
  rintro e w9 ⟨rfl, n9, rfl⟩
  go_wp2
  go_ret
  exact ⟨rfl, be7.trans ((Read.refl w7).drewN _ |>.below _)⟩

end Go.Proofs.Ytllecomieolamaa

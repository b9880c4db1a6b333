/-
  The walks of the laws NatOrder and NatLaws.
-/
import Derived.Test.YtllecomieolamaaLawA
namespace Go.Proofs.Ytllecomieolamaa
open Go.RowKit Num

theorem fitR_le {n : Nat} (h : (dig n).length ≤ 256) : fitR n = (dig n, 0) := by simp [fitR, h]
theorem small_len {xs : List Nat} (h : Ok xs) (hl : xs.length ≤ 40) : val xs < 4294967296 ^ 40 := Nat.lt_of_lt_of_le (val_lt h) (Nat.pow_le_pow_right (by decide) hl)
theorem add_small {xs ys : List Nat} (ho : Ok xs) (ho' : Ok ys) (h1 : rightB xs = true) (h2 : rightB ys = true) (hx : xs.length ≤ 40) (hy : ys.length ≤ 40) :
    addR xs ys = (dig (val xs + val ys), 0) ∧ (dig (val xs + val ys)).length ≤ 41 := by
  have := sum_len (small_len ho hx) (small_len ho' hy)
  exact ⟨by rw [addR_eq h1 h2, fitR_le (by omega)], this⟩
theorem right_dig' {n : Nat} (h : (dig n).length ≤ 256) : rightB (dig n) = true := by
  unfold rightB
  exact decide_eq_true ⟨h, fine_dig n⟩
theorem ok_same {xs ys : List Nat} (hx : dig (val xs) = xs) (hy : dig (val ys) = ys) : decide (xs = ys) = decide (val xs = val ys) := by
  by_cases h : val xs = val ys
  · rw [decide_eq_true h]
    exact decide_eq_true (by rw [← hx, ← hy, h])
  · rw [decide_eq_false h]
    exact decide_eq_false (fun e => h (by rw [e]))



set_option maxRecDepth 100000 in
set_option maxHeartbeats 1000000 in
theorem natOrder_use (w : World) (A : Option Addr) (c : Nat) (xs : List Nat) (ha : Rd w A c xs) (B : Option Addr) (d : Nat) (ys : List Nat) (hb : Rd w B d ys) :
    Calls Try.prog 8 #[.slice A xs.length c, .slice B ys.length d] w fun e w' => e = .returned (.bool true) ∧ Below w.heap.size w w' := by
  have hl1 := ha.len
  have hl2 := hb.len
  by_cases hf : xs.length ≤ 40 ∧ ys.length ≤ 40
  case neg =>
    have HF : Hid (decide (xs.length ≤ 40 ∧ ys.length ≤ 40) = false) := decide_eq_false hf
    clear hf
    go_enter Try.func8, Try.ntmps8
    go_wp2_with fail
    refine (alive_any w).mono ?_
    rintro e w1 ⟨rfl, hb1⟩
    go_wp2_with fail
    refine (few_any A B c d xs.length ys.length w1 hl1 hl2).mono ?_
    rintro e w2 ⟨rfl, rfl⟩
    rw [HF.out]
    go_wp2
    go_ret
    exact ⟨rfl, hb1⟩
  have HF : Hid (decide (xs.length ≤ 40 ∧ ys.length ≤ 40) = true) := decide_eq_true hf
  obtain ⟨hf1, hf2⟩ := hf
  by_cases h1 : rightB xs = true
  case neg =>
    have h1' : rightB xs = false := by simpa using h1
    clear h1
    go_enter Try.func8, Try.ntmps8
    go_wp2_with fail
    refine (alive_any w).mono ?_
    rintro e w1 ⟨rfl, hb1⟩
    have ha1 := ha.below hb1 (Nat.le_refl _)
    have hb1' := hb.below hb1 (Nat.le_refl _)
    go_wp2_with fail
    refine (few_any A B c d xs.length ys.length w1 hl1 hl2).mono ?_
    rintro e w2 ⟨rfl, rfl⟩
    rw [HF.out]
    go_wp2_with fail
    refine (right_any A c xs w1 ha1).mono ?_
    rintro e w2 ⟨rfl, rfl⟩
    rw [h1']
    go_wp2
    go_ret
    exact ⟨rfl, hb1⟩
  by_cases h2 : rightB ys = true
  case neg =>
    have h2' : rightB ys = false := by simpa using h2
    clear h2
    go_enter Try.func8, Try.ntmps8
    go_wp2_with fail
    refine (alive_any w).mono ?_
    rintro e w1 ⟨rfl, hb1⟩
    have ha1 := ha.below hb1 (Nat.le_refl _)
    have hb1' := hb.below hb1 (Nat.le_refl _)
    go_wp2_with fail
    refine (few_any A B c d xs.length ys.length w1 hl1 hl2).mono ?_
    rintro e w2 ⟨rfl, rfl⟩
    rw [HF.out]
    go_wp2_with fail
    refine (right_any A c xs w1 ha1).mono ?_
    rintro e w2 ⟨rfl, rfl⟩
    rw [h1]
    go_wp2_with fail
    refine (right_any B d ys w1 hb1').mono ?_
    rintro e w2 ⟨rfl, rfl⟩
    rw [h2']
    go_wp2
    go_ret
    exact ⟨rfl, hb1⟩
  have hd1 := right_dig ha.ok h1
  have hd2 := right_dig hb.ok h2
  obtain ⟨E, EL⟩ := add_small ha.ok hb.ok h1 h2 hf1 hf2
  have hr3 := right_dig' (n := val xs + val ys) (by omega)
  have C1 := Lib.hid (cmpR_eq h1 h2)
  have C2 := Lib.hid (cmpR_eq h2 h1)
  have C3 := Lib.hid (cmpR_eq hr3 h1)
  have HS := Lib.hid (ok_same hd1 hd2)
  have EA := Lib.hid E
  have H3 : Hid (0 ≤ cmpN (val (dig (val xs + val ys))) (val xs)) := by
    unfold Hid
    rw [val_dig]
    exact cmpN_neg_b (by omega)
  rcases Nat.lt_trichotomy (val xs) (val ys) with hlt | heq | hgt
  · have I := Lib.hid (And.intro (cmpN_lt hlt) (And.intro (cmpN_gt hlt) (And.intro (subR_no (xs := xs) (ys := ys) (by rw [h1, h2, decide_eq_false (by omega)]; rfl)) (HS.out.trans ((decide_eq_false (by omega) : decide (val xs = val ys) = false))))))
    clear hlt
    have HR := Lib.hid (And.intro h1 h2)
    clear hd1 hd2 E hr3 h1 h2
    go_enter Try.func8, Try.ntmps8
    go_wp2_with fail
    refine (alive_any w).mono ?_
    rintro e w1 ⟨rfl, hb1⟩
    have ha1 := ha.below hb1 (Nat.le_refl _)
    have hb1' := hb.below hb1 (Nat.le_refl _)
    go_wp2_with fail
    refine (few_any A B c d xs.length ys.length w1 hl1 hl2).mono ?_
    rintro e w2 ⟨rfl, rfl⟩
    rw [HF.out]
    go_wp2_with fail
    refine (right_any A c xs w1 ha1).mono ?_
    rintro e w2 ⟨rfl, rfl⟩
    rw [HR.out.1]
    go_wp2_with fail
    refine (right_any B d ys w1 hb1').mono ?_
    rintro e w2 ⟨rfl, rfl⟩
    rw [HR.out.2]
    go_wp2_with fail
    refine (cmp_any A B c d xs ys w1 ha1 hb1').mono ?_
    rintro e w2 ⟨rfl, n2, rfl⟩
    rw [C1.out, I.out.1]
    go_wp2_with fail
    refine (cmp_any B A d c ys xs _ (hb1'.drewN n2) (ha1.drewN n2)).mono ?_
    rintro e w3 ⟨rfl, n3, rfl⟩
    rw [C2.out, I.out.2.1]
    go_wp2_with fail
    refine (sub_any A B c d xs ys _ (ha1.drewN (n2 + n3)) (hb1'.drewN (n2 + n3))).mono ?_
    rintro e w4 ⟨⟨A4, c4, rfl, hr4⟩, hb4⟩
    rw [I.out.2.2.1]
    have ha4 := (ha1.drewN (n2 + n3)).below hb4 (Nat.le_refl _)
    have hb4' := (hb1'.drewN (n2 + n3)).below hb4 (Nat.le_refl _)
    have hbel4 : Below w.heap.size w w4 := (hb1.trans ((Read.refl w1).drewN (n2 + n3) |>.below _)).trans (hb4.mono hb1.size)
    clear hb4 hr4
    go_wp2_with fail
    refine (add_any A B c d xs ys _ ha4 hb4').mono ?_
    rintro e w5 ⟨⟨A5, c5, rfl, hr5⟩, hb5⟩
    rw [EA.out] at hr5 ⊢
    have ha5 := ha4.below hb5 (Nat.le_refl _)
    have hb5' := hb4'.below hb5 (Nat.le_refl _)
    have hbel5 : Below w.heap.size w w5 := hbel4.trans (hb5.mono hbel4.size)
    go_wp2_with fail
    refine (cmp_any A5 A c5 c _ xs _ hr5 ha5).mono ?_
    rintro e w6 ⟨rfl, n6, rfl⟩
    rw [C3.out]
    have hge := H3.out
    generalize cmpN (val (dig (val xs + val ys))) (val xs) = o at *
    go_wp2_with fail
    refine (same_any A B c d xs ys _ (ha5.drewN n6) (hb5'.drewN n6) (by omega) (by omega)).mono ?_
    rintro e w7 ⟨rfl, n7, rfl⟩
    rw [I.out.2.2.2]
    go_wp2
    go_ret
    exact ⟨rfl, hbel5.trans ((Read.refl w5).drewN (n6 + n7) |>.below _)⟩
  · have I := Lib.hid (And.intro (cmpN_eq heq) (And.intro (cmpN_eq heq.symm) (And.intro (subR_eq h1 h2 (by omega)) (HS.out.trans ((decide_eq_true (by omega) : decide (val xs = val ys) = true))))))
    clear heq
    have HR := Lib.hid (And.intro h1 h2)
    clear hd1 hd2 E hr3 h1 h2
    go_enter Try.func8, Try.ntmps8
    go_wp2_with fail
    refine (alive_any w).mono ?_
    rintro e w1 ⟨rfl, hb1⟩
    have ha1 := ha.below hb1 (Nat.le_refl _)
    have hb1' := hb.below hb1 (Nat.le_refl _)
    go_wp2_with fail
    refine (few_any A B c d xs.length ys.length w1 hl1 hl2).mono ?_
    rintro e w2 ⟨rfl, rfl⟩
    rw [HF.out]
    go_wp2_with fail
    refine (right_any A c xs w1 ha1).mono ?_
    rintro e w2 ⟨rfl, rfl⟩
    rw [HR.out.1]
    go_wp2_with fail
    refine (right_any B d ys w1 hb1').mono ?_
    rintro e w2 ⟨rfl, rfl⟩
    rw [HR.out.2]
    go_wp2_with fail
    refine (cmp_any A B c d xs ys w1 ha1 hb1').mono ?_
    rintro e w2 ⟨rfl, n2, rfl⟩
    rw [C1.out, I.out.1]
    go_wp2_with fail
    refine (cmp_any B A d c ys xs _ (hb1'.drewN n2) (ha1.drewN n2)).mono ?_
    rintro e w3 ⟨rfl, n3, rfl⟩
    rw [C2.out, I.out.2.1]
    go_wp2_with fail
    refine (sub_any A B c d xs ys _ (ha1.drewN (n2 + n3)) (hb1'.drewN (n2 + n3))).mono ?_
    rintro e w4 ⟨⟨A4, c4, rfl, hr4⟩, hb4⟩
    rw [I.out.2.2.1]
    have ha4 := (ha1.drewN (n2 + n3)).below hb4 (Nat.le_refl _)
    have hb4' := (hb1'.drewN (n2 + n3)).below hb4 (Nat.le_refl _)
    have hbel4 : Below w.heap.size w w4 := (hb1.trans ((Read.refl w1).drewN (n2 + n3) |>.below _)).trans (hb4.mono hb1.size)
    clear hb4 hr4
    go_wp2_with fail
    refine (add_any A B c d xs ys _ ha4 hb4').mono ?_
    rintro e w5 ⟨⟨A5, c5, rfl, hr5⟩, hb5⟩
    rw [EA.out] at hr5 ⊢
    have ha5 := ha4.below hb5 (Nat.le_refl _)
    have hb5' := hb4'.below hb5 (Nat.le_refl _)
    have hbel5 : Below w.heap.size w w5 := hbel4.trans (hb5.mono hbel4.size)
    go_wp2_with fail
    refine (cmp_any A5 A c5 c _ xs _ hr5 ha5).mono ?_
    rintro e w6 ⟨rfl, n6, rfl⟩
    rw [C3.out]
    have hge := H3.out
    generalize cmpN (val (dig (val xs + val ys))) (val xs) = o at *
    go_wp2_with fail
    refine (same_any A B c d xs ys _ (ha5.drewN n6) (hb5'.drewN n6) (by omega) (by omega)).mono ?_
    rintro e w7 ⟨rfl, n7, rfl⟩
    rw [I.out.2.2.2]
    go_wp2
    go_ret
    exact ⟨rfl, hbel5.trans ((Read.refl w5).drewN (n6 + n7) |>.below _)⟩
  · have I := Lib.hid (And.intro (cmpN_gt hgt) (And.intro (cmpN_lt hgt) (And.intro (subR_eq h1 h2 (by omega)) (HS.out.trans ((decide_eq_false (by omega) : decide (val xs = val ys) = false))))))
    clear hgt
    have HR := Lib.hid (And.intro h1 h2)
    clear hd1 hd2 E hr3 h1 h2
    go_enter Try.func8, Try.ntmps8
    go_wp2_with fail
    refine (alive_any w).mono ?_
    rintro e w1 ⟨rfl, hb1⟩
    have ha1 := ha.below hb1 (Nat.le_refl _)
    have hb1' := hb.below hb1 (Nat.le_refl _)
    go_wp2_with fail
    refine (few_any A B c d xs.length ys.length w1 hl1 hl2).mono ?_
    rintro e w2 ⟨rfl, rfl⟩
    rw [HF.out]
    go_wp2_with fail
    refine (right_any A c xs w1 ha1).mono ?_
    rintro e w2 ⟨rfl, rfl⟩
    rw [HR.out.1]
    go_wp2_with fail
    refine (right_any B d ys w1 hb1').mono ?_
    rintro e w2 ⟨rfl, rfl⟩
    rw [HR.out.2]
    go_wp2_with fail
    refine (cmp_any A B c d xs ys w1 ha1 hb1').mono ?_
    rintro e w2 ⟨rfl, n2, rfl⟩
    rw [C1.out, I.out.1]
    go_wp2_with fail
    refine (cmp_any B A d c ys xs _ (hb1'.drewN n2) (ha1.drewN n2)).mono ?_
    rintro e w3 ⟨rfl, n3, rfl⟩
    rw [C2.out, I.out.2.1]
    go_wp2_with fail
    refine (sub_any A B c d xs ys _ (ha1.drewN (n2 + n3)) (hb1'.drewN (n2 + n3))).mono ?_
    rintro e w4 ⟨⟨A4, c4, rfl, hr4⟩, hb4⟩
    rw [I.out.2.2.1]
    have ha4 := (ha1.drewN (n2 + n3)).below hb4 (Nat.le_refl _)
    have hb4' := (hb1'.drewN (n2 + n3)).below hb4 (Nat.le_refl _)
    have hbel4 : Below w.heap.size w w4 := (hb1.trans ((Read.refl w1).drewN (n2 + n3) |>.below _)).trans (hb4.mono hb1.size)
    clear hb4 hr4
    go_wp2_with fail
    refine (add_any A B c d xs ys _ ha4 hb4').mono ?_
    rintro e w5 ⟨⟨A5, c5, rfl, hr5⟩, hb5⟩
    rw [EA.out] at hr5 ⊢
    have ha5 := ha4.below hb5 (Nat.le_refl _)
    have hb5' := hb4'.below hb5 (Nat.le_refl _)
    have hbel5 : Below w.heap.size w w5 := hbel4.trans (hb5.mono hbel4.size)
    go_wp2_with fail
    refine (cmp_any A5 A c5 c _ xs _ hr5 ha5).mono ?_
    rintro e w6 ⟨rfl, n6, rfl⟩
    rw [C3.out]
    have hge := H3.out
    generalize cmpN (val (dig (val xs + val ys))) (val xs) = o at *
    go_wp2_with fail
    refine (same_any A B c d xs ys _ (ha5.drewN n6) (hb5'.drewN n6) (by omega) (by omega)).mono ?_
    rintro e w7 ⟨rfl, n7, rfl⟩
    rw [I.out.2.2.2]
    go_wp2
    go_ret
    exact ⟨rfl, hbel5.trans ((Read.refl w5).drewN (n6 + n7) |>.below _)⟩

end Go.Proofs.Ytllecomieolamaa

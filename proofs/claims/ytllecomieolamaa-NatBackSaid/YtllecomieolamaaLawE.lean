/-
  The walk of the law NatBack.
-/
import Derived.Test.YtllecomieolamaaLawD
import Derived.Test.YtllecomieolamaaNatS
namespace Go.Proofs.Ytllecomieolamaa
open Go.RowKit Num

theorem parseR_cases (l : List UInt8) : (∃ c : Int, parseR l = ([], c) ∧ (c == 0) = false) ∨ (parseR l = (dig (numOf l), 0) ∧ decS (numOf l) = l ∧ (dig (numOf l)).length ≤ 256) := by
  by_cases h : formB l = true
  · by_cases h2 : l.length ≤ 2000
    · rw [parseR_ok h h2]
      unfold fitR
      by_cases h3 : (dig (numOf l)).length ≤ 256
      · rw [if_pos h3]
        exact .inr ⟨rfl, decS_numOf l h, h3⟩
      · rw [if_neg h3]
        exact .inl ⟨3, rfl, by decide⟩
    · rw [parseR_long h h2]
      exact .inl ⟨3, rfl, by decide⟩
  · rw [parseR_form (by simpa using h)]
    exact .inl ⟨5, rfl, by decide⟩
theorem textR_dig {n : Nat} (h : (dig n).length ≤ 256) : textR (dig n) = (decS n, 0) := by
  unfold textR
  rw [if_pos (right_dig' h), val_dig]
theorem decS_len {n : Nat} (h : (dig n).length ≤ 40) : (decS n).length ≤ 401 := by
  unfold decS
  split
  · simp
  · have := decR_len_dig h
    simp
    omega
theorem parseR_dec {n : Nat} (h : (dig n).length ≤ 40) : parseR (decS n) = (dig n, 0) := by
  rw [parseR_ok (formB_decS n) (by have := decS_len h; omega), numOf_decS, fitR_le (by omega)]
theorem sub_dig {a b : Nat} (_ : (dig a).length ≤ 40) (h2 : (dig b).length ≤ 40) (h3 : (dig (a + b)).length ≤ 41) : subR (dig (a + b)) (dig b) = (dig a, 0) := by
  rw [subR_eq (right_dig' (by omega)) (right_dig' (by omega)) (by rw [val_dig, val_dig]; omega), val_dig, val_dig, Nat.add_sub_cancel]
theorem div_dig {a b : Nat} (h1 : (dig a).length ≤ 40) (h2 : (dig b).length ≤ 40) (h : dig b ≠ []) : divR (dig a) (dig b) = (dig (a / b), dig (a % b), 0) := by
  rw [divR_eq (right_dig' (by omega)) (right_dig' (by omega)) h, val_dig, val_dig]
theorem back_dig {a b : Nat} (h1 : (dig a).length ≤ 40) (h2 : (dig b).length ≤ 40) (hb : 0 < b) : (dig (a / b)).length ≤ 40 ∧ (dig (a % b)).length ≤ 40 ∧ mulR (dig (a / b)) (dig b) = (dig (a / b * b), 0) ∧ (dig (a / b * b)).length ≤ 80 ∧
    addR (dig (a / b * b)) (dig (a % b)) = (dig a, 0) ∧ cmpR (dig (a % b)) (dig b) = (-1, 0) := by
  have q1 : (dig (a / b)).length ≤ 40 := Nat.le_trans (dig_len_mono (Nat.div_le_self _ _)) h1
  have q2 : (dig (a % b)).length ≤ 40 := Nat.le_trans (dig_len_mono (Nat.mod_le _ _)) h1
  obtain ⟨m1, m2⟩ := mul_dig q1 h2 (by decide) (by decide) (by decide)
  obtain ⟨s1, _⟩ := add_dig (m := a / b * b) (n := a % b) (k := 80) m2 (by omega) (by decide)
  have e : a / b * b + a % b = a := by rw [Nat.mul_comm]; exact Nat.div_add_mod a b
  rw [e] at s1
  refine ⟨q1, q2, m1, m2, s1, ?_⟩
  rw [cmpR_eq (right_dig' (by omega)) (right_dig' (by omega)), val_dig, val_dig, cmpN_lt (Nat.mod_lt _ hb)]
theorem parse_use {l : List UInt8} {r : List Nat × Int} {w : World} (h : parseR l = r) (hs : l.length ≤ 1000000) : Calls Try.prog 45 #[.string ⟨l.toArray⟩] w fun e w' => RetSE w w' e r := by
  subst h
  exact parse_any ⟨l.toArray⟩ w (by show l.toArray.size ≤ 1000000; rw [List.size_toArray]; exact hs)
theorem bytes_eta (s : ByteArray) : (⟨s.data.toList.toArray⟩ : ByteArray) = s := by
  cases s
  simp
theorem text_back {A : Option Addr} {c n : Nat} {s : ByteArray} {w : World} (ha : Rd w A c (dig n)) (h : (dig n).length ≤ 256) (hs : decS n = s.data.toList) :
    Calls Try.prog 46 #[.slice A (dig n).length c] w fun e w' => e = .returned (.tuple #[.string s, .int .i64 0]) ∧ Below w.heap.size w w' := by
  refine (text_any A c _ w ha).mono ?_
  rintro e w' ⟨he, hb⟩
  rw [textR_dig h, hs] at he
  refine ⟨?_, hb⟩
  rw [he, bytes_eta]
theorem same_self {A B : Option Addr} {c d : Nat} {xs : List Nat} {w : World} (ha : Rd w A c xs) (hb : Rd w B d xs) (hs : xs.length ≤ 1000000) :
    Calls Try.prog 30 #[.slice A xs.length c, .slice B xs.length d] w fun e w' => e = .returned (.bool true) ∧ Read w w' := by
  refine (same_any A B c d xs xs w ha hb hs hs).mono ?_
  rintro e w' ⟨rfl, h⟩
  exact ⟨by rw [decide_eq_true rfl], h⟩


set_option maxRecDepth 100000 in
set_option maxHeartbeats 1000000 in
theorem natBack_use (w : World) (A : Option Addr) (c : Nat) (xs : List Nat) (ha : Rd w A c xs) (B : Option Addr) (d : Nat) (ys : List Nat) (hb : Rd w B d ys) (s : ByteArray) (hs : s.size ≤ maxLen) :
    Calls Try.prog 9 #[.slice A xs.length c, .slice B ys.length d, .string s] w fun e w' => e = .returned (.bool true) ∧ Below w.heap.size w w' := by
  have hl1 := ha.len
  have hl2 := hb.len
  have hl3 : s.size ≤ 9223372036854775807 := by
    unfold maxLen at hs
    omega
  by_cases hf : xs.length ≤ 40 ∧ ys.length ≤ 40
  case neg =>
    have HF : Hid (decide (xs.length ≤ 40 ∧ ys.length ≤ 40) = false) := decide_eq_false hf
    clear hf
    go_enter Try.func9, Try.ntmps9
    go_wp2_with fail
    refine (alive_any w).mono ?_
    rintro e w1 ⟨rfl, hb1⟩
    go_wp2_with fail
    refine (few_any A B c d xs.length ys.length w1 hl1 hl2).mono ?_
    rintro e w2 ⟨rfl, rfl⟩
    rw [HF.out]
    go_wp2
    go_ret
    exact ⟨rfl, hb1⟩
  have HF : Hid (decide (xs.length ≤ 40 ∧ ys.length ≤ 40) = true) := decide_eq_true hf
  obtain ⟨hf1, hf2⟩ := hf
  go_enter Try.func9, Try.ntmps9
  go_wp2_with fail
  refine (alive_any w).mono ?_
  rintro e w1 ⟨rfl, hb1⟩
  have ha1 := ha.below hb1 (Nat.le_refl _)
  have hb1' := hb.below hb1 (Nat.le_refl _)
  go_wp2_with fail
  refine (few_any A B c d xs.length ys.length w1 hl1 hl2).mono ?_
  rintro e w2 ⟨rfl, rfl⟩
  rw [HF.out]
  by_cases h4 : s.size ≤ 400
  case neg =>
    go_wp2
    go_ret
    exact ⟨rfl, hb1⟩
  clear HF hl3 hs
  rcases parseR_cases s.data.toList with ⟨co, hp, hco⟩ | ⟨hp, hq, hr⟩
  · have HP := Lib.hid hp
    clear hp
    go_wp2_with fail
    refine (parse_any s w1 (by omega)).mono ?_
    rintro e wp ⟨⟨A2, c2, rfl, r2⟩, b2⟩
    rw [HP.out]
    have hap := ha1.below b2 (Nat.le_refl _)
    have hbq := hb1'.below b2 (Nat.le_refl _)
    have hbp : Below w.heap.size w wp := hb1.trans (b2.mono hb1.size)
    clear HP b2 r2 ha1 hb1' hb1
    by_cases h1 : rightB xs = true
    case neg =>
      have h1' : rightB xs = false := by simpa using h1
      clear h1
      go_wp2_with fail
      refine (right_any A c xs wp hap).mono ?_
      rintro e w2 ⟨rfl, rfl⟩
      rw [h1']
      go_wp2
      go_ret
      exact ⟨rfl, hbp⟩
    by_cases h2 : rightB ys = true
    case neg =>
      have h2' : rightB ys = false := by simpa using h2
      clear h2
      go_wp2_with fail
      refine (right_any A c xs wp hap).mono ?_
      rintro e w2 ⟨rfl, rfl⟩
      rw [h1]
      go_wp2_with fail
      refine (right_any B d ys wp hbq).mono ?_
      rintro e w2 ⟨rfl, rfl⟩
      rw [h2']
      go_wp2
      go_ret
      exact ⟨rfl, hbp⟩
    go_wp2_with fail
    refine (right_any A c xs wp hap).mono ?_
    rintro e w2 ⟨rfl, rfl⟩
    rw [h1]
    go_wp2_with fail
    refine (right_any B d ys wp hbq).mono ?_
    rintro e w2 ⟨rfl, rfl⟩
    rw [h2]
    have hd1 := right_dig ha.ok h1
    have hd2 := right_dig hb.ok h2
    clear h1 h2
    generalize val xs = a at hd1
    generalize val ys = b at hd2
    subst hd1 hd2
    obtain ⟨E1, m1⟩ := add_dig hf1 hf2 (by decide)
    have HE := Lib.hid (And.intro E1 (And.intro (sub_dig hf1 hf2 m1) (And.intro (textR_dig (n := a) (by omega)) (parseR_dec hf1))))
    have m2 := decS_len hf1
    clear E1
    go_wp2_with fail
    refine (add_any A B c d _ _ wp hap hbq).mono ?_
    rintro e w2 ⟨⟨A2, c2, rfl, r2⟩, b2⟩
    rw [HE.out.1] at r2 ⊢
    have ha2 := hap.below b2 (Nat.le_refl _)
    have hb2 := hbq.below b2 (Nat.le_refl _)
    have be2 : Below w.heap.size w w2 := hbp.trans (b2.mono hbp.size)
    clear b2 hap hbq hbp
    go_wp2_with fail
    refine (sub_any A2 B c2 d _ _ w2 r2 hb2).mono ?_
    rintro e w3 ⟨⟨A3, c3, rfl, r3⟩, b3⟩
    rw [HE.out.2.1] at r3 ⊢
    have ha3 := ha2.below b3 (Nat.le_refl _)
    have hb3 := hb2.below b3 (Nat.le_refl _)
    have be3 : Below w.heap.size w w3 := be2.trans (b3.mono be2.size)
    clear b3 ha2 hb2 be2 r2
    go_wp2_with fail
    refine (text_any A c _ w3 ha3).mono ?_
    rintro e w4 ⟨rfl, b4⟩
    rw [HE.out.2.2.1]
    have ha4 := ha3.below b4 (Nat.le_refl _)
    have hb4 := hb3.below b4 (Nat.le_refl _)
    have r3' := r3.below b4 (Nat.le_refl _)
    have be4 : Below w.heap.size w w4 := be3.trans (b4.mono be3.size)
    clear b4 ha3 hb3 be3 r3
    go_wp2_with fail
    refine (parse_use (w := w4) HE.out.2.2.2 (by omega)).mono ?_
    rintro e w5 ⟨⟨A5, c5, rfl, r5⟩, b5⟩
    have ha5 := ha4.below b5 (Nat.le_refl _)
    have hb5 := hb4.below b5 (Nat.le_refl _)
    have r3 := r3'.below b5 (Nat.le_refl _)
    have be5 : Below w.heap.size w w5 := be4.trans (b5.mono be4.size)
    clear b5 ha4 hb4 be4 r3'
    go_wp2_with fail
    refine (same_self r3 ha5 (by omega)).mono ?_
    rintro e w6 ⟨rfl, n6, rfl⟩
    have be6 := be5.trans ((Read.refl w5).drewN n6 |>.below _)
    go_wp2_with fail
    refine (same_self (r5.drewN n6) (ha5.drewN n6) (by omega)).mono ?_
    rintro e w7 ⟨rfl, n7, rfl⟩
    have ha7 := ha5.drewN (n6 + n7)
    have hb7 := hb5.drewN (n6 + n7)
    have be7 := be5.trans ((Read.refl w5).drewN (n6 + n7) |>.below _)
    clear HE r3 r5 ha5 hb5 be5 be6
    by_cases h0 : (dig b).length = 0
    · go_wp2
      go_ret
      exact ⟨rfl, be7⟩
    have h0' : 0 < (dig b).length := by omega
    have hne : dig b ≠ [] := fun e => h0 (by rw [e]; rfl)
    have hpos : 0 < b := by
      rcases Nat.eq_zero_or_pos b with rfl | h
      · exact absurd dig_zero hne
      · exact h
    obtain ⟨q1, q2, E6, m6, E7, E8⟩ := back_dig hf1 hf2 hpos
    have HE := Lib.hid (And.intro (div_dig hf1 hf2 hne) (And.intro E6 (And.intro E7 E8)))
    clear E6 E7 E8 hne hpos h0
    go_wp2_with fail
    refine (divmod_any A B c d _ _ _ ha7 hb7).mono ?_
    rintro e w8 ⟨⟨A8, c8, A9, c9, rfl, r8, r9⟩, b8⟩
    rw [HE.out.1] at r8 r9 ⊢
    have ha8 := ha7.below b8 (Nat.le_refl _)
    have hb8 := hb7.below b8 (Nat.le_refl _)
    have be8 : Below w.heap.size w w8 := be7.trans (b8.mono be7.size)
    clear b8 ha7 hb7 be7
    go_wp2_with fail
    refine (mul_any A8 B c8 d _ _ w8 r8 hb8).mono ?_
    rintro e w9 ⟨⟨A0, c0, rfl, r0⟩, b9⟩
    rw [HE.out.2.1] at r0 ⊢
    have ha9 := ha8.below b9 (Nat.le_refl _)
    have hb9 := hb8.below b9 (Nat.le_refl _)
    have r9' := r9.below b9 (Nat.le_refl _)
    have be9 : Below w.heap.size w w9 := be8.trans (b9.mono be8.size)
    clear b9 ha8 hb8 be8 r8 r9
    go_wp2_with fail
    refine (add_any A0 A9 c0 c9 _ _ w9 r0 r9').mono ?_
    rintro e wa ⟨⟨Aa, ca, rfl, ra⟩, ba⟩
    rw [HE.out.2.2.1] at ra ⊢
    have haa := ha9.below ba (Nat.le_refl _)
    have hba := hb9.below ba (Nat.le_refl _)
    have r9 := r9'.below ba (Nat.le_refl _)
    have bea : Below w.heap.size w wa := be9.trans (ba.mono be9.size)
    clear ba ha9 hb9 be9 r9' r0
    go_wp2_with fail
    refine (cmp_any A9 B c9 d _ _ wa r9 hba).mono ?_
    rintro e wb ⟨rfl, nb, rfl⟩
    rw [HE.out.2.2.2]
    go_wp2_with fail
    refine (same_self (ra.drewN nb) (haa.drewN nb) (by omega)).mono ?_
    rintro e wc ⟨rfl, nc, rfl⟩
    go_wp2
    go_ret
    exact ⟨rfl, bea.trans ((Read.refl wa).drewN (nb + nc) |>.below _)⟩
  · have HP := Lib.hid hp
    have HQ := Lib.hid hq
    clear hp hq
    generalize numOf s.data.toList = v at *
    go_wp2_with fail
    refine (parse_any s w1 (by omega)).mono ?_
    rintro e wo ⟨⟨A2, c2, rfl, r2⟩, b2⟩
    rw [HP.out] at r2 ⊢
    have hao := ha1.below b2 (Nat.le_refl _)
    have hbo := hb1'.below b2 (Nat.le_refl _)
    have hbe : Below w.heap.size w wo := hb1.trans (b2.mono hb1.size)
    clear HP b2 ha1 hb1' hb1
    go_wp2_with fail
    refine (text_back r2 hr HQ.out).mono ?_
    rintro e wp ⟨rfl, b3⟩
    have hap := hao.below b3 (Nat.le_refl _)
    have hbq := hbo.below b3 (Nat.le_refl _)
    have hbp : Below w.heap.size w wp := hbe.trans (b3.mono hbe.size)
    clear HQ b3 hao hbo hbe r2
    by_cases h1 : rightB xs = true
    case neg =>
      have h1' : rightB xs = false := by simpa using h1
      clear h1
      go_wp2_with fail
      refine (right_any A c xs wp hap).mono ?_
      rintro e w2 ⟨rfl, rfl⟩
      rw [h1']
      go_wp2
      go_ret
      exact ⟨rfl, hbp⟩
    by_cases h2 : rightB ys = true
    case neg =>
      have h2' : rightB ys = false := by simpa using h2
      clear h2
      go_wp2_with fail
      refine (right_any A c xs wp hap).mono ?_
      rintro e w2 ⟨rfl, rfl⟩
      rw [h1]
      go_wp2_with fail
      refine (right_any B d ys wp hbq).mono ?_
      rintro e w2 ⟨rfl, rfl⟩
      rw [h2']
      go_wp2
      go_ret
      exact ⟨rfl, hbp⟩
    go_wp2_with fail
    refine (right_any A c xs wp hap).mono ?_
    rintro e w2 ⟨rfl, rfl⟩
    rw [h1]
    go_wp2_with fail
    refine (right_any B d ys wp hbq).mono ?_
    rintro e w2 ⟨rfl, rfl⟩
    rw [h2]
    have hd1 := right_dig ha.ok h1
    have hd2 := right_dig hb.ok h2
    clear h1 h2
    generalize val xs = a at hd1
    generalize val ys = b at hd2
    subst hd1 hd2
    obtain ⟨E1, m1⟩ := add_dig hf1 hf2 (by decide)
    have HE := Lib.hid (And.intro E1 (And.intro (sub_dig hf1 hf2 m1) (And.intro (textR_dig (n := a) (by omega)) (parseR_dec hf1))))
    have m2 := decS_len hf1
    clear E1
    go_wp2_with fail
    refine (add_any A B c d _ _ wp hap hbq).mono ?_
    rintro e w2 ⟨⟨A2, c2, rfl, r2⟩, b2⟩
    rw [HE.out.1] at r2 ⊢
    have ha2 := hap.below b2 (Nat.le_refl _)
    have hb2 := hbq.below b2 (Nat.le_refl _)
    have be2 : Below w.heap.size w w2 := hbp.trans (b2.mono hbp.size)
    clear b2 hap hbq hbp
    go_wp2_with fail
    refine (sub_any A2 B c2 d _ _ w2 r2 hb2).mono ?_
    rintro e w3 ⟨⟨A3, c3, rfl, r3⟩, b3⟩
    rw [HE.out.2.1] at r3 ⊢
    have ha3 := ha2.below b3 (Nat.le_refl _)
    have hb3 := hb2.below b3 (Nat.le_refl _)
    have be3 : Below w.heap.size w w3 := be2.trans (b3.mono be2.size)
    clear b3 ha2 hb2 be2 r2
    go_wp2_with fail
    refine (text_any A c _ w3 ha3).mono ?_
    rintro e w4 ⟨rfl, b4⟩
    rw [HE.out.2.2.1]
    have ha4 := ha3.below b4 (Nat.le_refl _)
    have hb4 := hb3.below b4 (Nat.le_refl _)
    have r3' := r3.below b4 (Nat.le_refl _)
    have be4 : Below w.heap.size w w4 := be3.trans (b4.mono be3.size)
    clear b4 ha3 hb3 be3 r3
    go_wp2_with fail
    refine (parse_use (w := w4) HE.out.2.2.2 (by omega)).mono ?_
    rintro e w5 ⟨⟨A5, c5, rfl, r5⟩, b5⟩
    have ha5 := ha4.below b5 (Nat.le_refl _)
    have hb5 := hb4.below b5 (Nat.le_refl _)
    have r3 := r3'.below b5 (Nat.le_refl _)
    have be5 : Below w.heap.size w w5 := be4.trans (b5.mono be4.size)
    clear b5 ha4 hb4 be4 r3'
    go_wp2_with fail
    refine (same_self r3 ha5 (by omega)).mono ?_
    rintro e w6 ⟨rfl, n6, rfl⟩
    have be6 := be5.trans ((Read.refl w5).drewN n6 |>.below _)
    go_wp2_with fail
    refine (same_self (r5.drewN n6) (ha5.drewN n6) (by omega)).mono ?_
    rintro e w7 ⟨rfl, n7, rfl⟩
    have ha7 := ha5.drewN (n6 + n7)
    have hb7 := hb5.drewN (n6 + n7)
    have be7 := be5.trans ((Read.refl w5).drewN (n6 + n7) |>.below _)
    clear HE r3 r5 ha5 hb5 be5 be6
    by_cases h0 : (dig b).length = 0
    · go_wp2
      go_ret
      exact ⟨rfl, be7⟩
    have h0' : 0 < (dig b).length := by omega
    have hne : dig b ≠ [] := fun e => h0 (by rw [e]; rfl)
    have hpos : 0 < b := by
      rcases Nat.eq_zero_or_pos b with rfl | h
      · exact absurd dig_zero hne
      · exact h
    obtain ⟨q1, q2, E6, m6, E7, E8⟩ := back_dig hf1 hf2 hpos
    have HE := Lib.hid (And.intro (div_dig hf1 hf2 hne) (And.intro E6 (And.intro E7 E8)))
    clear E6 E7 E8 hne hpos h0
    go_wp2_with fail
    refine (divmod_any A B c d _ _ _ ha7 hb7).mono ?_
    rintro e w8 ⟨⟨A8, c8, A9, c9, rfl, r8, r9⟩, b8⟩
    rw [HE.out.1] at r8 r9 ⊢
    have ha8 := ha7.below b8 (Nat.le_refl _)
    have hb8 := hb7.below b8 (Nat.le_refl _)
    have be8 : Below w.heap.size w w8 := be7.trans (b8.mono be7.size)
    clear b8 ha7 hb7 be7
    go_wp2_with fail
    refine (mul_any A8 B c8 d _ _ w8 r8 hb8).mono ?_
    rintro e w9 ⟨⟨A0, c0, rfl, r0⟩, b9⟩
    rw [HE.out.2.1] at r0 ⊢
    have ha9 := ha8.below b9 (Nat.le_refl _)
    have hb9 := hb8.below b9 (Nat.le_refl _)
    have r9' := r9.below b9 (Nat.le_refl _)
    have be9 : Below w.heap.size w w9 := be8.trans (b9.mono be8.size)
    clear b9 ha8 hb8 be8 r8 r9
    go_wp2_with fail
    refine (add_any A0 A9 c0 c9 _ _ w9 r0 r9').mono ?_
    rintro e wa ⟨⟨Aa, ca, rfl, ra⟩, ba⟩
    rw [HE.out.2.2.1] at ra ⊢
    have haa := ha9.below ba (Nat.le_refl _)
    have hba := hb9.below ba (Nat.le_refl _)
    have r9 := r9'.below ba (Nat.le_refl _)
    have bea : Below w.heap.size w wa := be9.trans (ba.mono be9.size)
    clear ba ha9 hb9 be9 r9' r0
    go_wp2_with fail
    refine (cmp_any A9 B c9 d _ _ wa r9 hba).mono ?_
    rintro e wb ⟨rfl, nb, rfl⟩
    rw [HE.out.2.2.2]
    go_wp2_with fail
    refine (same_self (ra.drewN nb) (haa.drewN nb) (by omega)).mono ?_
    rintro e wc ⟨rfl, nc, rfl⟩
    go_wp2
    go_ret
    exact ⟨rfl, bea.trans ((Read.refl wa).drewN (nb + nc) |>.below _)⟩

end Go.Proofs.Ytllecomieolamaa

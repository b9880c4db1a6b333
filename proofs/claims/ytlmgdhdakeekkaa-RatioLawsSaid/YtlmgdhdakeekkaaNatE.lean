/-
  Contracts of Less, Cmp, Add, Sub of both.
-/
import Derived.Test.YtlmgdhdakeekkaaNatD
namespace Go.Proofs.Ytlmgdhdakeekkaa
open Go.RowKit Num

theorem right_dig {xs : List Nat} (ho : Ok xs) (h : rightB xs = true) : dig (val xs) = xs := by
  unfold rightB at h
  exact dig_val ho (of_decide_eq_true h).2
theorem right_len {xs : List Nat} (h : rightB xs = true) : xs.length ≤ 256 := by
  unfold rightB at h
  exact (of_decide_eq_true h).1
theorem dig_len_mono {m n : Nat} (h : m ≤ n) : (dig m).length ≤ (dig n).length := dig_length_le (Nat.lt_of_le_of_lt h (le_of_dig_length (Nat.le_refl _)))
theorem less_len {m n : Nat} (hl : ¬ (dig m).length = (dig n).length) : decide ((dig m).length < (dig n).length) = decide (m < n) := by
  rcases Nat.lt_or_gt_of_ne hl with h | h
  · exact (decide_eq_true h).trans (decide_eq_true (cmp_len h)).symm
  · have := cmp_len h
    exact (decide_eq_false (by omega)).trans (decide_eq_false (by omega)).symm
theorem decide_lt_true {m n : Nat} (h : m < n) : decide (m < n) = true := decide_eq_true h
theorem decide_lt_false {m n : Nat} (h : ¬ m < n) : decide (m < n) = false := decide_eq_false h

set_option maxRecDepth 100000 in
theorem less_any (A B : Option Addr) (c d m n : Nat) (w : World) (ha : Rd w A c (dig m)) (hb : Rd w B d (dig n)) (hs : (dig m).length ≤ 1000000) (ht : (dig n).length ≤ 1000000) :
   Calls Try.prog 55 #[.slice A (dig m).length c, .slice B (dig n).length d] w fun e w' => e = .returned (.bool (decide (m < n))) ∧ Read w w' := by
  by_cases hl : (dig m).length = (dig n).length
  · have e1 : (((dig m).length : Int) != ((dig n).length : Int)) = false := by simp [hl]
    have Hl := Lib.hid hl
    rw [hl] at e1 ⊢
    clear hl
    go_enter Try.func55, Try.ntmps55
    go_wp2
    go_loopw [5] (fun i wr => ∃ k : Nat, k ≤ (dig n).length ∧ i = .int .i64 ((k : Int) - 1) ∧ (dig m).drop k = (dig n).drop k ∧ Read w wr) (fun i _ => (intOf i + 1).toNat)
    case atStart => exact ⟨(dig n).length, Nat.le_refl _, rfl, by rw [List.drop_length, ← Hl.out, List.drop_length], Read.refl w⟩
    case round =>
      obtain ⟨k, hk, rfl, heq, q, rfl⟩ := hrel
      have Heq := Lib.hid heq
      clear heq
      cases k with
      | zero =>
        go_wp2
        go_ret
        exact ⟨ret_bool (decide_lt_false (by have := dig_inj (m := m) (n := n) (by simpa using Heq.out); omega)).symm, ⟨q, rfl⟩⟩
      | succ k =>
        have hx : dig m ≠ [] := by intro h; have := Hl.out; rw [h] at this; simp at this; omega
        have hy : dig n ≠ [] := by intro h; rw [h] at hk; simp at hk
        obtain ⟨b1, o1, rfl, hb1, hc1⟩ := ha.at_ hx
        obtain ⟨b2, o2, rfl, hb2, hc2⟩ := hb.at_ hy
        have hky : k < (dig n).length := hk
        have hkx : k < (dig m).length := by rw [Hl.out]; exact hk
        have h1 := hc1 k hkx
        have h2 := hc2 k hky
        clear hc1 hc2
        by_cases hz : (dig m)[k] = (dig n)[k]
        · have Hz := Lib.hid hz
          have hz1 : (((dig m)[k] : Int) != ((dig n)[k] : Int)) = false := by simp [hz]
          clear hz
          go_wp2
          go_quiet (fail)
          go_wp2
          go_roundw
          case rel => exact ⟨k, by omega, by go_num, drop_step hkx hky Heq.out Hz.out, (by first | exact Read.refl _ | exact ⟨_, rfl⟩ | exact Read.drewN ⟨_, rfl⟩ _ | exact Read.drewN (Read.drewN ⟨_, rfl⟩ _) _ | exact Read.drewN (Read.refl _) _)⟩
          case measure => simp [intOf]
        · have hz1 : (((dig m)[k] : Int) != ((dig n)[k] : Int)) = true := by simp; omega
          have HE : Hid (decide ((dig m)[k] < (dig n)[k]) = decide (m < n)) := by
            rcases Nat.lt_or_gt_of_ne hz with h | h
            · have h2 := cmp_top Hl.out hkx hky Heq.out h
              exact (decide_eq_true (by omega)).trans (decide_eq_true h2).symm
            · have h2 := cmp_top Hl.out.symm hky hkx Heq.out.symm h
              exact (decide_eq_false (by omega)).trans (decide_eq_false (by omega)).symm
          clear hz
          go_wp2
          go_quiet (fail)
          go_wp2
          go_quiet (fail)
          go_wp2
          go_ret
          exact ⟨ret_bool HE.out, (by first | exact Read.refl _ | exact ⟨_, rfl⟩ | exact Read.drewN ⟨_, rfl⟩ _ | exact Read.drewN (Read.drewN ⟨_, rfl⟩ _) _ | exact Read.drewN (Read.refl _) _)⟩
  · have e1 : (((dig m).length : Int) != ((dig n).length : Int)) = true := by simp; omega
    have HE := Lib.hid (less_len hl)
    go_enter Try.func55, Try.ntmps55
    go_wp2
    go_ret
    exact ⟨ret_bool HE.out, Read.refl w⟩

theorem cmpR_eq {xs ys : List Nat} (h1 : rightB xs = true) (h2 : rightB ys = true) : cmpR xs ys = (cmpN (val xs) (val ys), 0) := by simp [cmpR, h1, h2]
theorem cmpR_no {xs ys : List Nat} (h : (rightB xs && rightB ys) = false) : cmpR xs ys = (0, 2) := by simp [cmpR, h]
theorem addR_eq {xs ys : List Nat} (h1 : rightB xs = true) (h2 : rightB ys = true) : addR xs ys = fitR (val xs + val ys) := by simp [addR, h1, h2]
theorem addR_no {xs ys : List Nat} (h : (rightB xs && rightB ys) = false) : addR xs ys = ([], 2) := by simp [addR, h]

/-- Two results: a number, and what is wrong. -/
theorem ret_two {k1 k2 : IntKind} {r : Int × Int} {a b : Int} (h : r = (a, b)) : Ending.returned (.tuple #[.int k1 a, .int k2 b]) = .returned (.tuple #[.int k1 r.1, .int k2 r.2]) := by rw [h]



set_option maxRecDepth 100000 in
theorem cmp_any (A B : Option Addr) (c d : Nat) (xs ys : List Nat) (w : World) (ha : Rd w A c xs) (hb : Rd w B d ys) :
   Calls Try.prog 58 #[.slice A xs.length c, .slice B ys.length d] w fun e w' => e = .returned (.tuple #[.int .i64 (cmpR xs ys).1, .int .i64 (cmpR xs ys).2]) ∧ Read w w' := by
  by_cases h1 : rightB xs = true
  · by_cases h2 : rightB ys = true
    · have hd1 := right_dig ha.ok h1
      have hd2 := right_dig hb.ok h2
      have hl1 := right_len h1
      have hl2 := right_len h2
      have HE := Lib.hid (cmpR_eq h1 h2)
      have HO := fun w' ha' hb' => order_any A B c d (val xs) (val ys) w' ha' hb' (by rw [hd1]; omega) (by rw [hd2]; omega)
      rw [hd1, hd2] at HO
      have HO := Lib.hid HO
      clear hd1 hd2
      go_enter Try.func58, Try.ntmps58
      go_wp2_with (first
        | (go_at_call 53; refine (right_any _ _ _ _ (by first | exact ha | exact hb)).mono ?_; rintro e w' ⟨rfl, rfl⟩)
        | (go_at_call 59; refine (HO.out _ ha hb).mono ?_; rintro e w' ⟨rfl, k, rfl⟩))
      go_ret2
      rw [HE.out]
      exact ⟨rfl, (by first | exact Read.refl _ | exact ⟨_, rfl⟩ | exact Read.drewN ⟨_, rfl⟩ _ | exact Read.drewN (Read.drewN ⟨_, rfl⟩ _) _ | exact Read.drewN (Read.refl _) _)⟩
    · have h2' : rightB ys = false := by simpa using h2
      clear h2
      have HE := Lib.hid (cmpR_no (xs := xs) (ys := ys) (by rw [h2']; simp))
      go_enter Try.func58, Try.ntmps58
      go_wp2_with (go_at_call 53; refine (right_any _ _ _ _ (by first | exact ha | exact hb)).mono ?_; rintro e w' ⟨rfl, rfl⟩)
      go_ret2
      rw [HE.out]
      exact ⟨rfl, Read.refl _⟩
  · have h1' : rightB xs = false := by simpa using h1
    clear h1
    have HE := Lib.hid (cmpR_no (xs := xs) (ys := ys) (by rw [h1']; simp))
    go_enter Try.func58, Try.ntmps58
    go_wp2_with (go_at_call 53; refine (right_any _ _ _ _ (by first | exact ha | exact hb)).mono ?_; rintro e w' ⟨rfl, rfl⟩)
    go_ret2
    rw [HE.out]
    exact ⟨rfl, Read.refl _⟩


end Go.Proofs.Ytlmgdhdakeekkaa

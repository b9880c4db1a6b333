/-
  The walk of the law NatBack.
-/
import Derived.Test.YtlmgdhdakeekkaaLawD
import Derived.Test.YtlmgdhdakeekkaaNatS
namespace Go.Proofs.Ytlmgdhdakeekkaa
open Go.RowKit Num

theorem parseR_cases (l : List UInt8) : (∃ c : Int, parseR l = ([], c) ∧ (c == 0) = false) ∨ (parseR l = (dig (numOf l), 0) ∧ decS (numOf l) = l ∧ (dig (numOf l)).length ≤ 256) := by
  by_cases h : formB l = true
  · by_cases h2 : l.length ≤ 2000
    · rw [parseR_ok h h2]
      unfold fitR
      by_cases h3 : (dig (numOf l)).length ≤ 256
      · rw [if_pos h3]
        exact .inr ⟨rfl, decS_numOf l h, h3⟩
      · rw [if_neg h3]
        exact .inl ⟨3, rfl, by decide⟩
    · rw [parseR_long h h2]
      exact .inl ⟨3, rfl, by decide⟩
  · rw [parseR_form (by simpa using h)]
    exact .inl ⟨5, rfl, by decide⟩
theorem textR_dig {n : Nat} (h : (dig n).length ≤ 256) : textR (dig n) = (decS n, 0) := by
  unfold textR
  rw [if_pos (right_dig' h), val_dig]
theorem decS_len {n : Nat} (h : (dig n).length ≤ 40) : (decS n).length ≤ 401 := by
  unfold decS
  split
  · simp
  · have := decR_len_dig h
    simp
    omega
theorem parseR_dec {n : Nat} (h : (dig n).length ≤ 40) : parseR (decS n) = (dig n, 0) := by
  rw [parseR_ok (formB_decS n) (by have := decS_len h; omega), numOf_decS, fitR_le (by omega)]
theorem sub_dig {a b : Nat} (_ : (dig a).length ≤ 40) (h2 : (dig b).length ≤ 40) (h3 : (dig (a + b)).length ≤ 41) : subR (dig (a + b)) (dig b) = (dig a, 0) := by
  rw [subR_eq (right_dig' (by omega)) (right_dig' (by omega)) (by rw [val_dig, val_dig]; omega), val_dig, val_dig, Nat.add_sub_cancel]
theorem div_dig {a b : Nat} (h1 : (dig a).length ≤ 40) (h2 : (dig b).length ≤ 40) (h : dig b ≠ []) : divR (dig a) (dig b) = (dig (a / b), dig (a % b), 0) := by
  rw [divR_eq (right_dig' (by omega)) (right_dig' (by omega)) h, val_dig, val_dig]
theorem back_dig {a b : Nat} (h1 : (dig a).length ≤ 40) (h2 : (dig b).length ≤ 40) (hb : 0 < b) : (dig (a / b)).length ≤ 40 ∧ (dig (a % b)).length ≤ 40 ∧ mulR (dig (a / b)) (dig b) = (dig (a / b * b), 0) ∧ (dig (a / b * b)).length ≤ 80 ∧
    addR (dig (a / b * b)) (dig (a % b)) = (dig a, 0) ∧ cmpR (dig (a % b)) (dig b) = (-1, 0) := by
  have q1 : (dig (a / b)).length ≤ 40 := Nat.le_trans (dig_len_mono (Nat.div_le_self _ _)) h1
  have q2 : (dig (a % b)).length ≤ 40 := Nat.le_trans (dig_len_mono (Nat.mod_le _ _)) h1
  obtain ⟨m1, m2⟩ := mul_dig q1 h2 (by decide) (by decide) (by decide)
  obtain ⟨s1, _⟩ := add_dig (m := a / b * b) (n := a % b) (k := 80) m2 (by omega) (by decide)
  have e : a / b * b + a % b = a := by rw [Nat.mul_comm]; exact Nat.div_add_mod a b
  rw [e] at s1
  refine ⟨q1, q2, m1, m2, s1, ?_⟩
  rw [cmpR_eq (right_dig' (by omega)) (right_dig' (by omega)), val_dig, val_dig, cmpN_lt (Nat.mod_lt _ hb)]
theorem bytes_eta (s : ByteArray) : (⟨s.data.toList.toArray⟩ : ByteArray) = s := by
  cases s
  simp
theorem text_back {A : Option Addr} {c n : Nat} {s : ByteArray} {w : World} (ha : Rd w A c (dig n)) (h : (dig n).length ≤ 256) (hs : decS n = s.data.toList) :
    Calls Try.prog 52 #[.slice A (dig n).length c] w fun e w' => e = .returned (.tuple #[.string s, .int .i64 0]) ∧ Below w.heap.size w w' := by
  refine (text_any A c _ w ha).mono ?_
  rintro e w' ⟨he, hb⟩
  rw [textR_dig h, hs] at he
  refine ⟨?_, hb⟩
  rw [he, bytes_eta]
theorem same_self {A B : Option Addr} {c d : Nat} {xs : List Nat} {w : World} (ha : Rd w A c xs) (hb : Rd w B d xs) (hs : xs.length ≤ 1000000) :
    Calls Try.prog 48 #[.slice A xs.length c, .slice B xs.length d] w fun e w' => e = .returned (.bool true) ∧ Read w w' := by
  refine (same_any A B c d xs xs w ha hb hs hs).mono ?_
  rintro e w' ⟨rfl, h⟩
  exact ⟨by rw [decide_eq_true rfl], h⟩



end Go.Proofs.Ytlmgdhdakeekkaa

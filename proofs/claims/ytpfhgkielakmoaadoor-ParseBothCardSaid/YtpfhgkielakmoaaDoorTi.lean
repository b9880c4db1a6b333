/-
  The document's value of a number's text.
-/
import Derived.Test.YtpfhgkielakmoaaDoorTh
set_option linter.unusedSimpArgs false
set_option linter.unusedVariables false
namespace Go.Proofs.YtpfhgkielakmoaaDoor
open Go.RowKit Num

def numD (a : Nat) (l : List UInt8) : Nat := l.foldl (fun a c => a * 10 + (c.toNat - 48)) a
theorem numD_cons (a : Nat) (c : UInt8) (l : List UInt8) : numD a (c :: l) = numD (a * 10 + (c.toNat - 48)) l := by
  unfold numD
  rw [List.foldl_cons]
theorem numD_le (l : List UInt8) : ∀ a, a ≤ numD a l := by
  induction l with
  | nil => exact fun a => Nat.le_refl _
  | cons c l ih =>
    intro a
    have := ih (a * 10 + (c.toNat - 48))
    rw [numD_cons]
    omega
theorem numD_split (l : List UInt8) (j : Nat) (a : Nat) : numD a l = numD (numD a (l.take j)) (l.drop j) := by
  unfold numD
  rw [← List.foldl_append, List.take_append_drop]
theorem numD_take {l : List UInt8} {j : Nat} (h : j < l.length) : numD 0 (l.take (j + 1)) = numD 0 (l.take j) * 10 + (l[j].toNat - 48) := by
  unfold numD
  rw [List.take_succ_eq_append_getElem h, List.foldl_append]
  rfl
theorem parseU {M : Nat} (hM : M = 18446744073709551615) (l : List UInt8) : (∀ c ∈ l, isDigit c = true) → ∀ a, a ≤ M → Lib.parseUintM M a l = if numD a l ≤ M then .ok (numD a l) else .range := by
  subst hM
  induction l with
  | nil =>
    intro _ a ha
    rw [Lib.parseUintM]
    rw [if_pos (by exact ha)]
    rfl
  | cons c l ih =>
    intro hd a ha
    have hc := (class_eq (c := c) rfl).2.1 (hd c (List.mem_cons_self))
    have hle := numD_le l (a * 10 + (c.toNat - 48))
    rw [Lib.parseUintM, if_pos hc, numD_cons]
    by_cases h1 : 1844674407370955162 ≤ a
    · rw [if_pos h1, if_neg (by omega)]
    · rw [if_neg h1]
      by_cases h2 : 18446744073709551615 < a * 10 + (c.toNat - 48)
      · rw [if_pos h2, if_neg (by omega)]
      · rw [if_neg h2, ih (fun d h => hd d (List.mem_cons_of_mem _ h)) _ (by omega)]
/-- The number of a text and whether it is one of 64 bits. -/
def vR (l : List UInt8) : Int × Bool := match Lib.parseIntB 64 l with
  | .ok v => (v, true)
  | _ => (0, false)
theorem vR_eq (neg : Bool) (ds : List UInt8) (hne : ds ≠ []) (hd : ∀ c ∈ ds, isDigit c = true) :
    vR (if neg then 45 :: ds else ds) = if -9223372036854775808 ≤ sv neg (dig (numD 0 ds)) ∧ sv neg (dig (numD 0 ds)) < 9223372036854775808 then (sv neg (dig (numD 0 ds)), true) else (0, false) := by
  have hu : Lib.parseUintB 64 ds = if numD 0 ds ≤ 18446744073709551615 then .ok (numD 0 ds) else .range := by
    unfold Lib.parseUintB
    rw [if_neg hne]
    exact parseU rfl ds hd 0 (by decide)
  unfold vR sv
  rw [val_dig]
  cases neg with
  | true =>
    rw [if_pos rfl, if_pos rfl]
    unfold Lib.parseIntB
    simp only
    rw [if_pos (by decide), hu]
    by_cases h1 : numD 0 ds ≤ 18446744073709551615
    · rw [if_pos h1]
      simp only
      rw [if_neg (by intro h; exact h.1 rfl)]
      by_cases h2 : 2 ^ (64 - 1) < numD 0 ds
      · rw [if_pos ⟨rfl, h2⟩, if_neg (by intro h; have := h.1; simp at h2; omega)]
      · rw [if_neg (fun h => h2 h.2), if_pos (show UInt8.toNat 45 = 45 from rfl), if_pos (by simp at h2; omega)]
    · rw [if_neg h1, if_neg (by omega)]
  | false =>
    simp only [Bool.false_eq_true, if_false]
    cases ds with
    | nil => exact absurd rfl hne
    | cons c r =>
      have hc := (class_eq (c := c) rfl).2.1 (hd c (List.mem_cons_self))
      unfold Lib.parseIntB
      simp only
      rw [if_neg (by omega), hu]
      by_cases h1 : numD 0 (c :: r) ≤ 18446744073709551615
      · rw [if_pos h1]
        simp only
        by_cases h2 : 2 ^ (64 - 1) ≤ numD 0 (c :: r)
        · rw [if_pos ⟨by omega, h2⟩, if_neg (by intro h; have := h.2; simp at h2; omega)]
        · rw [if_neg (fun h => h2 h.2), if_neg (fun h => by omega), if_neg (by omega : ¬ c.toNat = 45), if_pos (by simp at h2; omega)]
      · rw [if_neg h1, if_neg (by omega)]
theorem vR_small (neg : Bool) (ds : List UInt8) (hne : ds ≠ []) (hd : ∀ c ∈ ds, isDigit c = true) (hl : (dig (numD 0 ds)).length ≤ 3) :
    vR (if neg then 45 :: ds else ds) = ((ssmallR (sN (sv neg (dig (numD 0 ds)))) (sD (sv neg (dig (numD 0 ds))))).1, (ssmallR (sN (sv neg (dig (numD 0 ds)))) (sD (sv neg (dig (numD 0 ds))))).2 == 0) := by
  rw [vR_eq neg ds hne hd]
  unfold ssmallR
  rw [if_pos (sright_sd (by unfold sD; rw [sv_abs, val_dig]; omega)), sv_sd]
  split
  · rfl
  · rfl
theorem vR_big (neg : Bool) (ds : List UInt8) (hne : ds ≠ []) (hd : ∀ c ∈ ds, isDigit c = true) {x : Nat} (hx : x ≤ numD 0 ds) (hl : 3 < (dig x).length) :
    vR (if neg then 45 :: ds else ds) = (0, false) := by
  rw [vR_eq neg ds hne hd, if_neg]
  have h1 : ¬ x < 4294967296 ^ 3 := fun h => by
    have := dig_length_le h
    omega
  unfold sv
  rw [val_dig]
  have h2 : (4294967296 : Nat) ^ 3 = 79228162514264337593543950336 := by decide
  rw [h2] at h1
  cases neg <;> simp <;> omega
theorem zn_false (x : Nat) : zn false x = (x : Int) := rfl
theorem len10 {x y : Nat} (h : (dig x).length ≤ 3) (hy : y ≤ 10) : (dig (x * y)).length ≤ 4 := by
  have h1 : x < 4294967296 ^ 3 := le_of_dig_length h
  refine dig_length_le ?_
  have h2 : (4294967296 : Nat) ^ 3 = 79228162514264337593543950336 := by decide
  have h3 : (4294967296 : Nat) ^ 4 = 340282366920938463463374607431768211456 := by decide
  have h4 : x * y ≤ x * 10 := Nat.mul_le_mul_left x hy
  omega
end Go.Proofs.YtpfhgkielakmoaaDoor

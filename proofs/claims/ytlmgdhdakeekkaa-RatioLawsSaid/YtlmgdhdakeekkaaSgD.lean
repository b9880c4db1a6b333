/-
  Contracts of touchstoneref03: made, fit, less, Same, Sum, Times.
  Contracts of touchstoneref03: Sum, Times, Add, Mul.
  Contracts of touchstoneref03: Times, Add, Mul.
  Contracts of touchstoneref03: Neg, Of, Small.
  Contracts of touchstoneref03: less, Cmp, Same.
-/
import Derived.Test.YtlmgdhdakeekkaaSgC
import Derived.Deep.RegionHeld3
set_option linter.unusedSimpArgs false
set_option linter.unusedVariables false
namespace Go.Proofs.Ytlmgdhdakeekkaa
open Go.RowKit Num

set_option maxRecDepth 100000 in
theorem rmade_any (neg : Bool) (A : Option Addr) (c : Nat) (xs : List Nat) (w : World) (ha : Rd w A c xs) :
    Calls Try.prog 42 #[.bool neg, .slice A xs.length c] w fun e w' => e = .returned (iv (neg && decide (xs ≠ [])) A xs.length c) ∧ Below w.heap.size w w' := by
  have hl := ha.len
  by_cases hx : xs = []
  · subst hx
    go_enter Try.func42, Try.ntmps42
    cases neg
    · go_wp2
      exact bodyPost_ret (v := iv false A 0 c) (by simp [results, Try.results42, go_sem]) rfl ⟨rfl, below_alloc1 _ _⟩
    · go_wp2
      exact bodyPost_ret (v := iv false A 0 c) (by simp [results, Try.results42, go_sem]) rfl ⟨rfl, below_alloc1 _ _⟩
  · have h1 : 0 < xs.length := List.length_pos_iff.2 hx
    have HE := Lib.hid (decide_eq_true hx)
    clear hx
    go_enter Try.func42, Try.ntmps42
    cases neg
    · go_wp2
      exact bodyPost_ret (v := iv false A xs.length c) (by simp [results, Try.results42, go_sem]) rfl ⟨rfl, below_alloc1 _ _⟩
    · go_wp2
      rw [HE.out]
      exact bodyPost_ret (v := iv true A xs.length c) (by simp [results, Try.results42, go_sem]) rfl ⟨rfl, below_alloc1 _ _⟩

def fitI (n : Bool) (xs : List Nat) : R3 := if xs.length ≤ 256 then (n, xs, 0) else sbad 3
def strip (n : Bool) (xs : List Nat) : Bool × List Nat := (n && decide (xs ≠ []), xs)
end Go.Proofs.Ytlmgdhdakeekkaa

namespace Go.Proofs.Ytlmgdhdakeekkaa
open Go.RowKit Num

/-- The whole number of a sign and a number. -/
def zn (n : Bool) (k : Nat) : Int := if n then -(k : Int) else k
theorem strip_dig (n : Bool) (k : Nat) : strip n (dig k) = (sN (zn n k), sD (zn n k)) := by
  unfold strip zn
  rw [sN_nat, sD_of]
theorem zn_same (n : Bool) (x y : Nat) : zn n x + zn n y = zn n (x + y) := by
  unfold zn
  cases n <;> simp <;> omega
theorem zn_less {n m : Bool} {x y : Nat} (h : (n == m) = false) (hl : x < y) : zn n x + zn m y = zn m (y - x) := by
  unfold zn
  cases n <;> cases m <;> simp at h ⊢ <;> omega
theorem zn_more {n m : Bool} {x y : Nat} (h : (n == m) = false) (hl : ¬ x < y) : zn n x + zn m y = zn n (x - y) := by
  unfold zn
  cases n <;> cases m <;> simp at h ⊢ <;> omega
theorem zn_mul (n m : Bool) (x y : Nat) : zn n x * zn m y = zn (n != m) (x * y) := by
  unfold zn
  cases n <;> cases m <;> simp [Int.mul_neg, Int.neg_mul]
theorem plus_eq {A B : Option Addr} {c d x y : Nat} {xs ys : List Nat} {w : World} (h1 : xs = dig x) (h2 : ys = dig y) (ha : Rd w A c xs) (hb : Rd w B d ys) (hs : xs.length ≤ 10000) (ht : ys.length ≤ 10000) :
   Calls Try.prog 67 #[.slice A xs.length c, .slice B ys.length d] w fun e w' => RetS w w' e (dig (x + y)) := by
  subst h1 h2
  have h := plus_any A B c d _ _ w ha hb (by omega) (by omega); rw [val_dig, val_dig] at h; exact h
theorem minus_eq {A B : Option Addr} {c d x y : Nat} {xs ys : List Nat} {w : World} (h1 : xs = dig x) (h2 : ys = dig y) (ha : Rd w A c xs) (hb : Rd w B d ys) (hs : xs.length ≤ 10000) (ht : ys.length ≤ 10000)(hle : y ≤ x) :
   Calls Try.prog 56 #[.slice A xs.length c, .slice B ys.length d] w fun e w' => RetS w w' e (dig (x - y)) := by
  subst h1 h2
  have h := minus_any A B c d _ _ w ha hb (by omega) (dig_len_mono hle) (by rw [val_dig, val_dig]; exact hle); rw [val_dig, val_dig] at h; exact h
theorem less_eq {A B : Option Addr} {c d x y : Nat} {xs ys : List Nat} {w : World} (h1 : xs = dig x) (h2 : ys = dig y) (ha : Rd w A c xs) (hb : Rd w B d ys) (hs : xs.length ≤ 10000) (ht : ys.length ≤ 10000) :
   Calls Try.prog 55 #[.slice A xs.length c, .slice B ys.length d] w fun e w' => e = .returned (.bool (decide (x < y))) ∧ Read w w' := by
  subst h1 h2
  exact less_any A B c d x y w ha hb (by omega) (by omega)

end Go.Proofs.Ytlmgdhdakeekkaa

namespace Go.Proofs.Ytlmgdhdakeekkaa
open Go.RowKit Num

theorem fitI_sfit (z : Int) : fitI (sN z) (sD z) = sfit z := rfl
theorem sv_zn (n : Bool) (xs : List Nat) : sv n xs = zn n (val xs) := rfl
end Go.Proofs.Ytlmgdhdakeekkaa

namespace Go.Proofs.Ytlmgdhdakeekkaa
open Go.RowKit Num

theorem rof_use {u : Nat} {U : Int} {w : World} (h : U = (u : Int)) (hu : u < 18446744073709551616) : Calls Try.prog 68 #[.int .u64 U] w fun e w' => RetS w w' e (dig u) := by
  subst h
  exact rof_any u w hu
theorem plus_lit {A : Option Addr} {c k g : Nat} {w : World} (ha : Rd w A c (dig k)) (hg : g = w.heap.size) (hl : (dig k).length ≤ 1000) :
    Calls Try.prog 67 #[.slice A (dig k).length c, .slice (some ⟨g, 0, none⟩) 1 1] (w.alloc (.cells #[.int .u32 1] 78)) fun e w' => RetS (w.alloc (.cells #[.int .u32 1] 78)) w' e (dig (k + 1)) := by
  have h := plus_any A (some ⟨g, 0, none⟩) c 1 (dig k) [1] (w.alloc (.cells #[.int .u32 1] 78)) (ha.alloc _) (lit1 w 1 rfl hg (by decide)) (by omega) (by decide)
  rw [val_dig] at h
  exact h
end Go.Proofs.Ytlmgdhdakeekkaa

namespace Go.Proofs.Ytlmgdhdakeekkaa
open Go.RowKit Num

theorem same_any' (A B : Option Addr) (c d : Nat) (xs ys : List Nat) (w : World) (ha : Rd w A c xs) (hb : Rd w B d ys) (hs : xs.length ≤ 1000000) (ht : ys.length ≤ 1000000) :
    Calls Try.prog 48 #[.slice A xs.length c, .slice B ys.length d] w fun e w' => e = .returned (.bool (decide (xs = ys))) ∧ Below w.heap.size w w' :=
  (same_any A B c d xs ys w ha hb hs ht).mono fun _ _ ⟨h1, h2⟩ => ⟨h1, h2.below _⟩
set_option maxRecDepth 100000 in
set_option maxHeartbeats 400000 in
theorem rssame_any (n m : Bool) (A B : Option Addr) (c d : Nat) (xs ys : List Nat) (w : World) (ha : Rd w A c xs) (hb : Rd w B d ys) (hs : xs.length ≤ 1000000) (ht : ys.length ≤ 1000000) :
    Calls Try.prog 33 #[iv n A xs.length c, iv m B ys.length d] w fun e w' => e = .returned (.bool ((n == m) && decide (xs = ys))) ∧ Below w.heap.size w w' := by
  have ha0 := (ha.alloc (.cells #[.bool n, .slice A xs.length c] 24)).alloc (.cells #[.bool (m), .slice B ys.length d] 24)
  have hy0 := (hb.alloc (.cells #[.bool n, .slice A xs.length c] 24)).alloc (.cells #[.bool (m), .slice B ys.length d] 24)
  have hb0 := below_alloc (below_alloc1 w (.cells #[.bool n, .slice A xs.length c] 24)) (Nat.le_refl _) (.cells #[.bool (m), .slice B ys.length d] 24)
  have k1 : Blk ((w.alloc (.cells #[.bool n, .slice A xs.length c] 24)).alloc (.cells #[.bool (m), .slice B ys.length d] 24)) w.heap.size _ _ := (Blk.new w 24 #[.bool n, .slice A xs.length c]).alloc _
  have k2 : Blk ((w.alloc (.cells #[.bool n, .slice A xs.length c] 24)).alloc (.cells #[.bool (m), .slice B ys.length d] 24)) (w.heap.size + 1) _ _ := Blk.at_ (by simp)
  rcases Bool.eq_false_or_eq_true (n == m) with hnm | hnm
  · rw [hnm]
    go_enter Try.func33, Try.ntmps33
    go_wp2_with fail
    refine (same_any' A B c d xs ys _ ha0 hy0 hs ht).mono ?_
    rintro e w2 ⟨rfl, hb2⟩
    go_wp2
    go_ret
    exact ⟨rfl, below_trans hb0 hb2⟩
  · rw [hnm]
    go_enter Try.func33, Try.ntmps33
    go_wp2
    go_ret
    exact ⟨by simp, hb0⟩

theorem slt_nn (xs ys : List Nat) : decide (sv true xs < sv true ys) = decide (val ys < val xs) := by
  unfold sv
  simp
theorem slt_pp (xs ys : List Nat) : decide (sv false xs < sv false ys) = decide (val xs < val ys) := by
  unfold sv
  simp
theorem slt_np {xs ys : List Nat} (ho : Ok xs) (h : sright true xs = true) : decide (sv true xs < sv false ys) = true := by
  have := val_pos_right ho (sright_rightB h) (sright_ne h)
  unfold sv
  simp
  omega
theorem slt_pn {xs ys : List Nat} : decide (sv false xs < sv true ys) = false := by
  unfold sv
  simp
  try omega
theorem less_any' (A B : Option Addr) (c d : Nat) (xs ys : List Nat) (w : World) (ha : Rd w A c xs) (hb : Rd w B d ys) (hx : dig (val xs) = xs) (hy : dig (val ys) = ys) (hs : xs.length ≤ 10000) (ht : ys.length ≤ 10000) :
    Calls Try.prog 55 #[.slice A xs.length c, .slice B ys.length d] w fun e w' => e = .returned (.bool (decide (val xs < val ys))) ∧ Below w.heap.size w w' :=
  (less_eq hx.symm hy.symm ha hb hs ht).mono fun _ _ ⟨h1, h2⟩ => ⟨h1, h2.below _⟩
end Go.Proofs.Ytlmgdhdakeekkaa

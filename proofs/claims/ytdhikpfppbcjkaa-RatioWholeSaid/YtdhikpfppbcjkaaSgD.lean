/-
  Contracts of touchstoneref03: made, fit, less, Same, Sum, Times.
  Contracts of touchstoneref03: Sum, Times, Add, Mul.
  Contracts of touchstoneref03: Times, Add, Mul.
  Contracts of touchstoneref03: Neg, Of, Small.
  Contracts of touchstoneref03: less, Cmp, Same.
-/
import Derived.Test.YtdhikpfppbcjkaaSgC
import Derived.Deep.RegionHeld3
set_option linter.unusedSimpArgs false
set_option linter.unusedVariables false
namespace Go.Proofs.Ytdhikpfppbcjkaa
open Go.RowKit Num

set_option maxRecDepth 100000 in
theorem rmade_any (neg : Bool) (A : Option Addr) (c : Nat) (xs : List Nat) (w : World) (ha : Rd w A c xs) :
    Calls Try.prog 78 #[.bool neg, .slice A xs.length c] w fun e w' => e = .returned (iv (neg && decide (xs ≠ [])) A xs.length c) ∧ Below w.heap.size w w' := by
  have hl := ha.len
  by_cases hx : xs = []
  · subst hx
    go_enter Try.func78, Try.ntmps78
    cases neg
    · go_wp2
      exact bodyPost_ret (v := iv false A 0 c) (by simp [results, Try.results78, go_sem]) rfl ⟨rfl, below_alloc1 _ _⟩
    · go_wp2
      exact bodyPost_ret (v := iv false A 0 c) (by simp [results, Try.results78, go_sem]) rfl ⟨rfl, below_alloc1 _ _⟩
  · have h1 : 0 < xs.length := List.length_pos_iff.2 hx
    have HE := Lib.hid (decide_eq_true hx)
    clear hx
    go_enter Try.func78, Try.ntmps78
    cases neg
    · go_wp2
      exact bodyPost_ret (v := iv false A xs.length c) (by simp [results, Try.results78, go_sem]) rfl ⟨rfl, below_alloc1 _ _⟩
    · go_wp2
      rw [HE.out]
      exact bodyPost_ret (v := iv true A xs.length c) (by simp [results, Try.results78, go_sem]) rfl ⟨rfl, below_alloc1 _ _⟩

def fitI (n : Bool) (xs : List Nat) : R3 := if xs.length ≤ 256 then (n, xs, 0) else sbad 3
set_option maxRecDepth 100000 in
set_option maxHeartbeats 400000 in
theorem rsfit_any (n : Bool) (A : Option Addr) (c : Nat) (xs : List Nat) (w : World) (ha : Rd w A c xs) :
    Calls Try.prog 82 #[iv n A xs.length c] w fun e w' => RetI w w' e (fitI n xs) := by
  have hb0 := below_alloc (below_alloc1 w (.cells #[.bool n, .slice A xs.length c] 24)) (Nat.le_refl _)
  have ha0 := ha.alloc (.cells #[.bool n, .slice A xs.length c] 24)
  have hl := ha.len
  by_cases h : xs.length ≤ 256
  · have HE : Hid (fitI n xs = (n, xs, 0)) := if_pos h
    go_enter Try.func82, Try.ntmps82
    go_wp2
    rw [HE.out]
    exact bodyPost_ret (v := .tuple #[iv n A xs.length c, .int .i64 0]) (by simp [results, Try.results82, go_sem]) rfl ⟨⟨A, c, rfl, ha0.alloc _⟩, hb0 _⟩
  · have HE : Hid (fitI n xs = (false, [], 3)) := if_neg h
    go_enter Try.func82, Try.ntmps82
    go_wp2
    rw [HE.out]
    exact bodyPost_ret (v := .tuple #[iv false none 0 0, .int .i64 3]) (by simp [results, Try.results82, go_sem]) rfl ⟨⟨none, 0, rfl, Rd.nil⟩, hb0 _⟩

def strip (n : Bool) (xs : List Nat) : Bool × List Nat := (n && decide (xs ≠ []), xs)
end Go.Proofs.Ytdhikpfppbcjkaa

namespace Go.Proofs.Ytdhikpfppbcjkaa
open Go.RowKit Num

/-- The whole number of a sign and a number. -/
def zn (n : Bool) (k : Nat) : Int := if n then -(k : Int) else k
theorem strip_dig (n : Bool) (k : Nat) : strip n (dig k) = (sN (zn n k), sD (zn n k)) := by
  unfold strip zn
  rw [sN_nat, sD_of]
theorem zn_same (n : Bool) (x y : Nat) : zn n x + zn n y = zn n (x + y) := by
  unfold zn
  cases n <;> simp <;> omega
theorem zn_less {n m : Bool} {x y : Nat} (h : (n == m) = false) (hl : x < y) : zn n x + zn m y = zn m (y - x) := by
  unfold zn
  cases n <;> cases m <;> simp at h ⊢ <;> omega
theorem zn_more {n m : Bool} {x y : Nat} (h : (n == m) = false) (hl : ¬ x < y) : zn n x + zn m y = zn n (x - y) := by
  unfold zn
  cases n <;> cases m <;> simp at h ⊢ <;> omega
theorem zn_mul (n m : Bool) (x y : Nat) : zn n x * zn m y = zn (n != m) (x * y) := by
  unfold zn
  cases n <;> cases m <;> simp [Int.mul_neg, Int.neg_mul]
theorem plus_eq {A B : Option Addr} {c d x y : Nat} {xs ys : List Nat} {w : World} (h1 : xs = dig x) (h2 : ys = dig y) (ha : Rd w A c xs) (hb : Rd w B d ys) (hs : xs.length ≤ 10000) (ht : ys.length ≤ 10000) :
   Calls Try.prog 79 #[.slice A xs.length c, .slice B ys.length d] w fun e w' => RetS w w' e (dig (x + y)) := by
  subst h1 h2
  have h := plus_any A B c d _ _ w ha hb (by omega) (by omega); rw [val_dig, val_dig] at h; exact h
theorem product_eq {A B : Option Addr} {c d x y : Nat} {xs ys : List Nat} {w : World} (h1 : xs = dig x) (h2 : ys = dig y) (ha : Rd w A c xs) (hb : Rd w B d ys) (hs : xs.length ≤ 10000) (ht : ys.length ≤ 10000) :
   Calls Try.prog 87 #[.slice A xs.length c, .slice B ys.length d] w fun e w' => RetS w w' e (dig (x * y)) := by
  subst h1 h2
  have h := product_any A B c d _ _ w ha hb (by omega) (by omega); rw [val_dig, val_dig] at h; exact h
theorem minus_eq {A B : Option Addr} {c d x y : Nat} {xs ys : List Nat} {w : World} (h1 : xs = dig x) (h2 : ys = dig y) (ha : Rd w A c xs) (hb : Rd w B d ys) (hs : xs.length ≤ 10000) (ht : ys.length ≤ 10000)(hle : y ≤ x) :
   Calls Try.prog 81 #[.slice A xs.length c, .slice B ys.length d] w fun e w' => RetS w w' e (dig (x - y)) := by
  subst h1 h2
  have h := minus_any A B c d _ _ w ha hb (by omega) (dig_len_mono hle) (by rw [val_dig, val_dig]; exact hle); rw [val_dig, val_dig] at h; exact h
theorem less_eq {A B : Option Addr} {c d x y : Nat} {xs ys : List Nat} {w : World} (h1 : xs = dig x) (h2 : ys = dig y) (ha : Rd w A c xs) (hb : Rd w B d ys) (hs : xs.length ≤ 10000) (ht : ys.length ≤ 10000) :
   Calls Try.prog 83 #[.slice A xs.length c, .slice B ys.length d] w fun e w' => e = .returned (.bool (decide (x < y))) ∧ Read w w' := by
  subst h1 h2
  exact less_any A B c d x y w ha hb (by omega) (by omega)

set_option maxRecDepth 100000 in
set_option maxHeartbeats 1000000 in
theorem rsum_any (n m : Bool) (A B : Option Addr) (c d x y : Nat) (w : World) (ha : Rd w A c (dig x)) (hb : Rd w B d (dig y)) (hx : (dig x).length ≤ 10000) (hy : (dig y).length ≤ 10000) :
    Calls Try.prog 55 #[iv n A (dig x).length c, iv m B (dig y).length d] w fun e w' => RetN w w' e (sN (zn n x + zn m y), sD (zn n x + zn m y)) := by
  obtain ⟨xs, hxs⟩ : ∃ xs, xs = dig x := ⟨_, rfl⟩
  obtain ⟨ys, hys⟩ : ∃ ys, ys = dig y := ⟨_, rfl⟩
  rw [← hxs] at ha hx ⊢
  rw [← hys] at hb hy ⊢
  have HX := Lib.hid hxs
  have HY := Lib.hid hys
  clear hxs hys
  rcases Bool.eq_false_or_eq_true (n == m) with hnm | hnm
  · have HN : Hid (m = n) := by unfold Hid; cases n <;> cases m <;> simp at hnm ⊢
    have ha0 := ((ha.alloc (.cells #[.bool n, .slice A xs.length c] 24)).alloc (.cells #[.bool (m), .slice B ys.length d] 24)).alloc (.cells #[.bool false, .slice none 0 0] 24)
    have hy0 := ((hb.alloc (.cells #[.bool n, .slice A xs.length c] 24)).alloc (.cells #[.bool (m), .slice B ys.length d] 24)).alloc (.cells #[.bool false, .slice none 0 0] 24)
    have hb0 := below_alloc (below_alloc (below_alloc1 w (.cells #[.bool n, .slice A xs.length c] 24)) (Nat.le_refl _) (.cells #[.bool (m), .slice B ys.length d] 24)) (Nat.le_refl _) (.cells #[.bool false, .slice none 0 0] 24)
    have k1 : Blk (((w.alloc (.cells #[.bool n, .slice A xs.length c] 24)).alloc (.cells #[.bool (m), .slice B ys.length d] 24)).alloc (.cells #[.bool false, .slice none 0 0] 24)) w.heap.size _ _ := ((Blk.new w 24 #[.bool n, .slice A xs.length c]).alloc _).alloc _
    have k2 : Blk (((w.alloc (.cells #[.bool n, .slice A xs.length c] 24)).alloc (.cells #[.bool (m), .slice B ys.length d] 24)).alloc (.cells #[.bool false, .slice none 0 0] 24)) (w.heap.size + 1) _ _ := (Blk.at_ (by simp)).alloc _
    have k4 : Blk (((w.alloc (.cells #[.bool n, .slice A xs.length c] 24)).alloc (.cells #[.bool (m), .slice B ys.length d] 24)).alloc (.cells #[.bool false, .slice none 0 0] 24)) (w.heap.size + 1 + 1) _ _ := Blk.at_ (by simp)
    go_enter Try.func55, Try.ntmps55
    go_wp2_with fail
    generalize ((w.alloc (.cells #[.bool n, .slice A xs.length c] 24)).alloc (.cells #[.bool (m), .slice B ys.length d] 24)).alloc (.cells #[.bool false, .slice none 0 0] 24) = w2 at *
    obtain ⟨v1, v2, _, _⟩ := k1.both
    obtain ⟨v3, v4, _, _⟩ := k2.both
    go_region_held3 (fun w' => w'.cell? ⟨w.heap.size, 0, none⟩ = some (.bool n) ∧ w'.cell? ⟨w.heap.size, 1, none⟩ = some (.slice A xs.length c) ∧ w'.cell? ⟨w.heap.size + 1, 0, none⟩ = some (.bool (m)) ∧ w'.cell? ⟨w.heap.size + 1, 1, none⟩ = some (.slice B ys.length d)) (first | exact ⟨v5, v6, v7, v8⟩ | exact ⟨v9, v10, v11, v12⟩ | exact ⟨(o1.away (by omega) _ _).both.1, (o1.away (by omega) _ _).both.2.1, (o2.away (by omega) _ _).both.1, (o2.away (by omega) _ _).both.2.1⟩ | go_keep)
      (first | (go_at_call 79; refine (plus_eq HX.out HY.out ha0.drew hy0.drew (by omega) (by omega)).mono ?_; rintro e w3 ⟨⟨A3, c3, rfl, hr3⟩, hb3⟩; obtain ⟨v5, v6, _, _⟩ := (k1.drew.below hb3 (Nat.le_refl _)).both; obtain ⟨v7, v8, _, _⟩ := (k2.drew.below hb3 (Nat.le_refl _)).both) | (go_at_call 78; refine (rmade_any (n) A3 c3 (dig (x + y)) w3 hr3).mono ?_; generalize hsq : ((n) && decide ((dig (x + y)) ≠ [])) = sq; have HSQ := Lib.hid hsq; clear hsq; rintro e w4 ⟨rfl, hb4⟩; have o1 := (k1.drew.below hb3 (Nat.le_refl _)).below hb4 (Nat.le_refl _); have o2 := (k2.drew.below hb3 (Nat.le_refl _)).below hb4 (Nat.le_refl _); have o4 := (k4.drew.below hb3 (Nat.le_refl _)).below hb4 (Nat.le_refl _); obtain ⟨v9, v10, _, _⟩ := o1.both; obtain ⟨v11, v12, _, _⟩ := o2.both; obtain ⟨f1, f2, f3, f4⟩ := o4.both))
    rename_i hHeld
    clear hHeld v1 v2 v3 v4 v5 v6 v7 v8 v9 v10 v11 v12 f1 f2 f3 f4
    have hr4 := (hr3.below hb4 (Nat.le_refl _)).put o4.ib sq (.slice A3 (dig (x + y)).length c3)
    have hbel := below_put (below_trans (below_trans (hb0.trans ((Read.refl w2).drew.below _)) hb3) hb4) (by omega) (.bool sq) (.slice A3 (dig (x + y)).length c3) (g := w.heap.size + 1 + 1)
    obtain ⟨u1, u2, _, _⟩ := (o4.put (.bool sq) (.slice A3 (dig (x + y)).length c3)).both
    clear o1 o2 o4 k1 k2 k4 hb3 hb4 hr3
    go_wp2
    refine bodyPost_ret (v := iv sq A3 (dig (x + y)).length c3) (by simp [results, Try.results55, go_sem, u1, u2]) rfl ?_
    have e : strip (n) (dig (x + y)) = (sq, dig (x + y)) := by unfold strip; rw [HSQ.out]
    rw [(by rw [HN.out, zn_same] : zn n x + zn m y = zn n (x + y)), ← strip_dig, e]
    exact ⟨⟨A3, c3, rfl, hr4⟩, hbel⟩
  · have HN := Lib.hid hnm
    by_cases hlt : x < y
    · have HL := Lib.hid hlt
      have HD := Lib.hid (decide_eq_true hlt)
      clear hlt
      have ha0 := ((ha.alloc (.cells #[.bool n, .slice A xs.length c] 24)).alloc (.cells #[.bool (m), .slice B ys.length d] 24)).alloc (.cells #[.bool false, .slice none 0 0] 24)
      have hy0 := ((hb.alloc (.cells #[.bool n, .slice A xs.length c] 24)).alloc (.cells #[.bool (m), .slice B ys.length d] 24)).alloc (.cells #[.bool false, .slice none 0 0] 24)
      have hb0 := below_alloc (below_alloc (below_alloc1 w (.cells #[.bool n, .slice A xs.length c] 24)) (Nat.le_refl _) (.cells #[.bool (m), .slice B ys.length d] 24)) (Nat.le_refl _) (.cells #[.bool false, .slice none 0 0] 24)
      have k1 : Blk (((w.alloc (.cells #[.bool n, .slice A xs.length c] 24)).alloc (.cells #[.bool (m), .slice B ys.length d] 24)).alloc (.cells #[.bool false, .slice none 0 0] 24)) w.heap.size _ _ := ((Blk.new w 24 #[.bool n, .slice A xs.length c]).alloc _).alloc _
      have k2 : Blk (((w.alloc (.cells #[.bool n, .slice A xs.length c] 24)).alloc (.cells #[.bool (m), .slice B ys.length d] 24)).alloc (.cells #[.bool false, .slice none 0 0] 24)) (w.heap.size + 1) _ _ := (Blk.at_ (by simp)).alloc _
      have k4 : Blk (((w.alloc (.cells #[.bool n, .slice A xs.length c] 24)).alloc (.cells #[.bool (m), .slice B ys.length d] 24)).alloc (.cells #[.bool false, .slice none 0 0] 24)) (w.heap.size + 1 + 1) _ _ := Blk.at_ (by simp)
      go_enter Try.func55, Try.ntmps55
      go_wp2_with fail
      generalize ((w.alloc (.cells #[.bool n, .slice A xs.length c] 24)).alloc (.cells #[.bool m, .slice B ys.length d] 24)).alloc (.cells #[.bool false, .slice none 0 0] 24) = w2 at *
      refine (less_eq HX.out HY.out ha0 hy0 (by omega) (by omega)).mono ?_
      rintro e w2' ⟨rfl, kk, rfl⟩
      rw [HD.out]
      replace ha0 := ha0.drewN kk
      replace hy0 := hy0.drewN kk
      replace hb0 := hb0.trans ((Read.refl w2).drewN kk |>.below _)
      replace k1 := k1.drewN kk
      replace k2 := k2.drewN kk
      replace k4 := k4.drewN kk
      generalize w2.drewN kk = w2 at *
      obtain ⟨v1, v2, _, _⟩ := k1.both
      obtain ⟨v3, v4, _, _⟩ := k2.both
      go_wp2_with fail
      go_region_held3 (fun w' => w'.cell? ⟨w.heap.size, 0, none⟩ = some (.bool n) ∧ w'.cell? ⟨w.heap.size, 1, none⟩ = some (.slice A xs.length c) ∧ w'.cell? ⟨w.heap.size + 1, 0, none⟩ = some (.bool (m)) ∧ w'.cell? ⟨w.heap.size + 1, 1, none⟩ = some (.slice B ys.length d)) (first | exact ⟨v5, v6, v7, v8⟩ | exact ⟨v9, v10, v11, v12⟩ | exact ⟨(o1.away (by omega) _ _).both.1, (o1.away (by omega) _ _).both.2.1, (o2.away (by omega) _ _).both.1, (o2.away (by omega) _ _).both.2.1⟩ | go_keep)
        (first | (go_at_call 81; refine (minus_eq HY.out HX.out hy0.drew ha0.drew (by omega) (by omega) (Nat.le_of_lt HL.out)).mono ?_; rintro e w3 ⟨⟨A3, c3, rfl, hr3⟩, hb3⟩; obtain ⟨v5, v6, _, _⟩ := (k1.drew.below hb3 (Nat.le_refl _)).both; obtain ⟨v7, v8, _, _⟩ := (k2.drew.below hb3 (Nat.le_refl _)).both) | (go_at_call 78; refine (rmade_any (m) A3 c3 (dig (y - x)) w3 hr3).mono ?_; generalize hsq : ((m) && decide ((dig (y - x)) ≠ [])) = sq; have HSQ := Lib.hid hsq; clear hsq; rintro e w4 ⟨rfl, hb4⟩; have o1 := (k1.drew.below hb3 (Nat.le_refl _)).below hb4 (Nat.le_refl _); have o2 := (k2.drew.below hb3 (Nat.le_refl _)).below hb4 (Nat.le_refl _); have o4 := (k4.drew.below hb3 (Nat.le_refl _)).below hb4 (Nat.le_refl _); obtain ⟨v9, v10, _, _⟩ := o1.both; obtain ⟨v11, v12, _, _⟩ := o2.both; obtain ⟨f1, f2, f3, f4⟩ := o4.both))
      rename_i hHeld
      clear hHeld v1 v2 v3 v4 v5 v6 v7 v8 v9 v10 v11 v12 f1 f2 f3 f4
      have hr4 := (hr3.below hb4 (Nat.le_refl _)).put o4.ib sq (.slice A3 (dig (y - x)).length c3)
      have hbel := below_put (below_trans (below_trans (hb0.trans ((Read.refl w2).drew.below _)) hb3) hb4) (by omega) (.bool sq) (.slice A3 (dig (y - x)).length c3) (g := w.heap.size + 1 + 1)
      obtain ⟨u1, u2, _, _⟩ := (o4.put (.bool sq) (.slice A3 (dig (y - x)).length c3)).both
      clear o1 o2 o4 k1 k2 k4 hb3 hb4 hr3
      go_wp2
      refine bodyPost_ret (v := iv sq A3 (dig (y - x)).length c3) (by simp [results, Try.results55, go_sem, u1, u2]) rfl ?_
      have e : strip (m) (dig (y - x)) = (sq, dig (y - x)) := by unfold strip; rw [HSQ.out]
      rw [(zn_less HN.out HL.out), ← strip_dig, e]
      exact ⟨⟨A3, c3, rfl, hr4⟩, hbel⟩
    · have HL := Lib.hid hlt
      have HD := Lib.hid (decide_eq_false hlt)
      clear hlt
      have ha0 := ((ha.alloc (.cells #[.bool n, .slice A xs.length c] 24)).alloc (.cells #[.bool (m), .slice B ys.length d] 24)).alloc (.cells #[.bool false, .slice none 0 0] 24)
      have hy0 := ((hb.alloc (.cells #[.bool n, .slice A xs.length c] 24)).alloc (.cells #[.bool (m), .slice B ys.length d] 24)).alloc (.cells #[.bool false, .slice none 0 0] 24)
      have hb0 := below_alloc (below_alloc (below_alloc1 w (.cells #[.bool n, .slice A xs.length c] 24)) (Nat.le_refl _) (.cells #[.bool (m), .slice B ys.length d] 24)) (Nat.le_refl _) (.cells #[.bool false, .slice none 0 0] 24)
      have k1 : Blk (((w.alloc (.cells #[.bool n, .slice A xs.length c] 24)).alloc (.cells #[.bool (m), .slice B ys.length d] 24)).alloc (.cells #[.bool false, .slice none 0 0] 24)) w.heap.size _ _ := ((Blk.new w 24 #[.bool n, .slice A xs.length c]).alloc _).alloc _
      have k2 : Blk (((w.alloc (.cells #[.bool n, .slice A xs.length c] 24)).alloc (.cells #[.bool (m), .slice B ys.length d] 24)).alloc (.cells #[.bool false, .slice none 0 0] 24)) (w.heap.size + 1) _ _ := (Blk.at_ (by simp)).alloc _
      have k4 : Blk (((w.alloc (.cells #[.bool n, .slice A xs.length c] 24)).alloc (.cells #[.bool (m), .slice B ys.length d] 24)).alloc (.cells #[.bool false, .slice none 0 0] 24)) (w.heap.size + 1 + 1) _ _ := Blk.at_ (by simp)
      go_enter Try.func55, Try.ntmps55
      go_wp2_with fail
      generalize ((w.alloc (.cells #[.bool n, .slice A xs.length c] 24)).alloc (.cells #[.bool m, .slice B ys.length d] 24)).alloc (.cells #[.bool false, .slice none 0 0] 24) = w2 at *
      refine (less_eq HX.out HY.out ha0 hy0 (by omega) (by omega)).mono ?_
      rintro e w2' ⟨rfl, kk, rfl⟩
      rw [HD.out]
      replace ha0 := ha0.drewN kk
      replace hy0 := hy0.drewN kk
      replace hb0 := hb0.trans ((Read.refl w2).drewN kk |>.below _)
      replace k1 := k1.drewN kk
      replace k2 := k2.drewN kk
      replace k4 := k4.drewN kk
      generalize w2.drewN kk = w2 at *
      obtain ⟨v1, v2, _, _⟩ := k1.both
      obtain ⟨v3, v4, _, _⟩ := k2.both
      go_wp2_with fail
      go_region_held3 (fun w' => w'.cell? ⟨w.heap.size, 0, none⟩ = some (.bool n) ∧ w'.cell? ⟨w.heap.size, 1, none⟩ = some (.slice A xs.length c) ∧ w'.cell? ⟨w.heap.size + 1, 0, none⟩ = some (.bool (m)) ∧ w'.cell? ⟨w.heap.size + 1, 1, none⟩ = some (.slice B ys.length d)) (first | exact ⟨v5, v6, v7, v8⟩ | exact ⟨v9, v10, v11, v12⟩ | exact ⟨(o1.away (by omega) _ _).both.1, (o1.away (by omega) _ _).both.2.1, (o2.away (by omega) _ _).both.1, (o2.away (by omega) _ _).both.2.1⟩ | go_keep)
        (first | (go_at_call 81; refine (minus_eq HX.out HY.out ha0.drew hy0.drew (by omega) (by omega) (Nat.le_of_not_lt HL.out)).mono ?_; rintro e w3 ⟨⟨A3, c3, rfl, hr3⟩, hb3⟩; obtain ⟨v5, v6, _, _⟩ := (k1.drew.below hb3 (Nat.le_refl _)).both; obtain ⟨v7, v8, _, _⟩ := (k2.drew.below hb3 (Nat.le_refl _)).both) | (go_at_call 78; refine (rmade_any (n) A3 c3 (dig (x - y)) w3 hr3).mono ?_; generalize hsq : ((n) && decide ((dig (x - y)) ≠ [])) = sq; have HSQ := Lib.hid hsq; clear hsq; rintro e w4 ⟨rfl, hb4⟩; have o1 := (k1.drew.below hb3 (Nat.le_refl _)).below hb4 (Nat.le_refl _); have o2 := (k2.drew.below hb3 (Nat.le_refl _)).below hb4 (Nat.le_refl _); have o4 := (k4.drew.below hb3 (Nat.le_refl _)).below hb4 (Nat.le_refl _); obtain ⟨v9, v10, _, _⟩ := o1.both; obtain ⟨v11, v12, _, _⟩ := o2.both; obtain ⟨f1, f2, f3, f4⟩ := o4.both))
      rename_i hHeld
      clear hHeld v1 v2 v3 v4 v5 v6 v7 v8 v9 v10 v11 v12 f1 f2 f3 f4
      have hr4 := (hr3.below hb4 (Nat.le_refl _)).put o4.ib sq (.slice A3 (dig (x - y)).length c3)
      have hbel := below_put (below_trans (below_trans (hb0.trans ((Read.refl w2).drew.below _)) hb3) hb4) (by omega) (.bool sq) (.slice A3 (dig (x - y)).length c3) (g := w.heap.size + 1 + 1)
      obtain ⟨u1, u2, _, _⟩ := (o4.put (.bool sq) (.slice A3 (dig (x - y)).length c3)).both
      clear o1 o2 o4 k1 k2 k4 hb3 hb4 hr3
      go_wp2
      refine bodyPost_ret (v := iv sq A3 (dig (x - y)).length c3) (by simp [results, Try.results55, go_sem, u1, u2]) rfl ?_
      have e : strip (n) (dig (x - y)) = (sq, dig (x - y)) := by unfold strip; rw [HSQ.out]
      rw [(zn_more HN.out HL.out), ← strip_dig, e]
      exact ⟨⟨A3, c3, rfl, hr4⟩, hbel⟩
end Go.Proofs.Ytdhikpfppbcjkaa

namespace Go.Proofs.Ytdhikpfppbcjkaa
open Go.RowKit Num

set_option maxRecDepth 100000 in
set_option maxHeartbeats 1000000 in
theorem rtimes_any (n m : Bool) (A B : Option Addr) (c d x y : Nat) (w : World) (ha : Rd w A c (dig x)) (hb : Rd w B d (dig y)) (hx : (dig x).length ≤ 10000) (hy : (dig y).length ≤ 10000) :
    Calls Try.prog 62 #[iv n A (dig x).length c, iv m B (dig y).length d] w fun e w' => RetN w w' e (sN (zn n x * zn m y), sD (zn n x * zn m y)) := by
  obtain ⟨xs, hxs⟩ : ∃ xs, xs = dig x := ⟨_, rfl⟩
  obtain ⟨ys, hys⟩ : ∃ ys, ys = dig y := ⟨_, rfl⟩
  rw [← hxs] at ha hx ⊢
  rw [← hys] at hb hy ⊢
  have HX := Lib.hid hxs
  have HY := Lib.hid hys
  clear hxs hys
  have ha0 := ((ha.alloc (.cells #[.bool n, .slice A xs.length c] 24)).alloc (.cells #[.bool (m), .slice B ys.length d] 24)).alloc (.cells #[.bool false, .slice none 0 0] 24)
  have hy0 := ((hb.alloc (.cells #[.bool n, .slice A xs.length c] 24)).alloc (.cells #[.bool (m), .slice B ys.length d] 24)).alloc (.cells #[.bool false, .slice none 0 0] 24)
  have hb0 := below_alloc (below_alloc (below_alloc1 w (.cells #[.bool n, .slice A xs.length c] 24)) (Nat.le_refl _) (.cells #[.bool (m), .slice B ys.length d] 24)) (Nat.le_refl _) (.cells #[.bool false, .slice none 0 0] 24)
  have k1 : Blk (((w.alloc (.cells #[.bool n, .slice A xs.length c] 24)).alloc (.cells #[.bool (m), .slice B ys.length d] 24)).alloc (.cells #[.bool false, .slice none 0 0] 24)) w.heap.size _ _ := ((Blk.new w 24 #[.bool n, .slice A xs.length c]).alloc _).alloc _
  have k2 : Blk (((w.alloc (.cells #[.bool n, .slice A xs.length c] 24)).alloc (.cells #[.bool (m), .slice B ys.length d] 24)).alloc (.cells #[.bool false, .slice none 0 0] 24)) (w.heap.size + 1) _ _ := (Blk.at_ (by simp)).alloc _
  have k4 : Blk (((w.alloc (.cells #[.bool n, .slice A xs.length c] 24)).alloc (.cells #[.bool (m), .slice B ys.length d] 24)).alloc (.cells #[.bool false, .slice none 0 0] 24)) (w.heap.size + 1 + 1) _ _ := Blk.at_ (by simp)
  go_enter Try.func62, Try.ntmps62
  go_wp2_with fail
  generalize ((w.alloc (.cells #[.bool n, .slice A xs.length c] 24)).alloc (.cells #[.bool (m), .slice B ys.length d] 24)).alloc (.cells #[.bool false, .slice none 0 0] 24) = w2 at *
  obtain ⟨v1, v2, _, _⟩ := k1.both
  obtain ⟨v3, v4, _, _⟩ := k2.both
  go_region_held3 (fun w' => w'.cell? ⟨w.heap.size, 0, none⟩ = some (.bool n) ∧ w'.cell? ⟨w.heap.size, 1, none⟩ = some (.slice A xs.length c) ∧ w'.cell? ⟨w.heap.size + 1, 0, none⟩ = some (.bool (m)) ∧ w'.cell? ⟨w.heap.size + 1, 1, none⟩ = some (.slice B ys.length d)) (first | exact ⟨v5, v6, v7, v8⟩ | exact ⟨v9, v10, v11, v12⟩ | exact ⟨(o1.away (by omega) _ _).both.1, (o1.away (by omega) _ _).both.2.1, (o2.away (by omega) _ _).both.1, (o2.away (by omega) _ _).both.2.1⟩ | go_keep)
    (first | (go_at_call 87; refine (product_eq HX.out HY.out ha0.drew hy0.drew (by omega) (by omega)).mono ?_; rintro e w3 ⟨⟨A3, c3, rfl, hr3⟩, hb3⟩; obtain ⟨v5, v6, _, _⟩ := (k1.drew.below hb3 (Nat.le_refl _)).both; obtain ⟨v7, v8, _, _⟩ := (k2.drew.below hb3 (Nat.le_refl _)).both) | (go_at_call 78; refine (rmade_any (n != m) A3 c3 (dig (x * y)) w3 hr3).mono ?_; generalize hsq : ((n != m) && decide ((dig (x * y)) ≠ [])) = sq; have HSQ := Lib.hid hsq; clear hsq; rintro e w4 ⟨rfl, hb4⟩; have o1 := (k1.drew.below hb3 (Nat.le_refl _)).below hb4 (Nat.le_refl _); have o2 := (k2.drew.below hb3 (Nat.le_refl _)).below hb4 (Nat.le_refl _); have o4 := (k4.drew.below hb3 (Nat.le_refl _)).below hb4 (Nat.le_refl _); obtain ⟨v9, v10, _, _⟩ := o1.both; obtain ⟨v11, v12, _, _⟩ := o2.both; obtain ⟨f1, f2, f3, f4⟩ := o4.both))
  rename_i hHeld
  clear hHeld v1 v2 v3 v4 v5 v6 v7 v8 v9 v10 v11 v12 f1 f2 f3 f4
  have hr4 := (hr3.below hb4 (Nat.le_refl _)).put o4.ib sq (.slice A3 (dig (x * y)).length c3)
  have hbel := below_put (below_trans (below_trans (hb0.trans ((Read.refl w2).drew.below _)) hb3) hb4) (by omega) (.bool sq) (.slice A3 (dig (x * y)).length c3) (g := w.heap.size + 1 + 1)
  obtain ⟨u1, u2, _, _⟩ := (o4.put (.bool sq) (.slice A3 (dig (x * y)).length c3)).both
  clear o1 o2 o4 k1 k2 k4 hb3 hb4 hr3
  go_wp2
  refine bodyPost_ret (v := iv sq A3 (dig (x * y)).length c3) (by simp [results, Try.results62, go_sem, u1, u2]) rfl ?_
  have e : strip (n != m) (dig (x * y)) = (sq, dig (x * y)) := by unfold strip; rw [HSQ.out]
  rw [(zn_mul n m x y : zn n x * zn m y = zn (n != m) (x * y)), ← strip_dig, e]
  exact ⟨⟨A3, c3, rfl, hr4⟩, hbel⟩

theorem fitI_sfit (z : Int) : fitI (sN z) (sD z) = sfit z := rfl
theorem sv_zn (n : Bool) (xs : List Nat) : sv n xs = zn n (val xs) := rfl
theorem sum_eq {n m : Bool} {A B : Option Addr} {c d : Nat} {xs ys : List Nat} {w : World} (h1 : dig (val xs) = xs) (h2 : dig (val ys) = ys) (ha : Rd w A c xs) (hb : Rd w B d ys) (hx : xs.length ≤ 10000) (hy : ys.length ≤ 10000) :
    Calls Try.prog 55 #[iv n A xs.length c, iv m B ys.length d] w fun e w' => RetN w w' e (sN (zn n (val xs) + zn m (val ys)), sD (zn n (val xs) + zn m (val ys))) := by
  have h := rsum_any n m A B c d (val xs) (val ys) w (by rw [h1]; exact ha) (by rw [h2]; exact hb) (by rw [h1]; exact hx) (by rw [h2]; exact hy)
  rw [h1, h2] at h
  exact h
theorem times_eq {n m : Bool} {A B : Option Addr} {c d : Nat} {xs ys : List Nat} {w : World} (h1 : dig (val xs) = xs) (h2 : dig (val ys) = ys) (ha : Rd w A c xs) (hb : Rd w B d ys) (hx : xs.length ≤ 10000) (hy : ys.length ≤ 10000) :
    Calls Try.prog 62 #[iv n A xs.length c, iv m B ys.length d] w fun e w' => RetN w w' e (sN (zn n (val xs) * zn m (val ys)), sD (zn n (val xs) * zn m (val ys))) := by
  have h := rtimes_any n m A B c d (val xs) (val ys) w (by rw [h1]; exact ha) (by rw [h2]; exact hb) (by rw [h1]; exact hx) (by rw [h2]; exact hy)
  rw [h1, h2] at h
  exact h
end Go.Proofs.Ytdhikpfppbcjkaa

namespace Go.Proofs.Ytdhikpfppbcjkaa
open Go.RowKit Num

set_option maxRecDepth 100000 in
set_option maxHeartbeats 400000 in
theorem rsneg_any (n : Bool) (A : Option Addr) (c : Nat) (xs : List Nat) (w : World) (ha : Rd w A c xs) :
    Calls Try.prog 66 #[iv n A xs.length c] w fun e w' => RetI w w' e (snegR n xs) := by
  have ha0 := (ha.alloc (.cells #[.bool n, .slice A xs.length c] 24)).alloc (.cells #[.bool false, .slice none 0 0] 24)
  have hb0 := below_alloc (below_alloc1 w (.cells #[.bool n, .slice A xs.length c] 24)) (Nat.le_refl _) (.cells #[.bool false, .slice none 0 0] 24)
  have k1 : Blk ((w.alloc (.cells #[.bool n, .slice A xs.length c] 24)).alloc (.cells #[.bool false, .slice none 0 0] 24)) w.heap.size _ _ := (Blk.new w 24 #[.bool n, .slice A xs.length c]).alloc _
  have k4 : Blk ((w.alloc (.cells #[.bool n, .slice A xs.length c] 24)).alloc (.cells #[.bool false, .slice none 0 0] 24)) (w.heap.size + 1) _ _ := Blk.at_ (by simp)
  rcases Bool.eq_false_or_eq_true (sright n xs) with h1 | h1
  case inr =>
    have HE := Lib.hid (snegR_no h1)
    have H1 := Lib.hid h1
    clear h1
    go_enter Try.func66, Try.ntmps66
    go_wp2_with fail
    refine (srright_any _ A c xs _ ha0).mono ?_
    rintro e w2 ⟨rfl, hb2⟩
    rw [H1.out]
    have j4 := k4.below hb2 (Nat.le_refl _)
    have hbel := below_trans hb0 hb2
    go_wp2_with ((with_reducible show wpList _ _ _ (Oper.mk none (Op.store _ _ _) _ _ _ _ :: _) _ _); refine wp_put (o := ⟨none, .store _ _ _, _, _, _, _⟩) _ _ j4 rfl rfl rfl rfl info_rint rfl rfl ?_; intro wA a3 gA; obtain ⟨v5, v6, _, _⟩ := a3.both)
    rw [HE.out]
    exact bodyPost_ret (v := .tuple #[iv false none 0 0, .int .i64 2]) (by simp [results, Try.results66, go_sem, v5, v6]) rfl ⟨⟨none, 0, rfl, Rd.nil⟩, below_grown hbel gA (hbel).size (by omega)⟩
  have HE := Lib.hid (snegR_eq ha.ok h1)
  have H1 := Lib.hid h1
  clear h1
  go_enter Try.func66, Try.ntmps66
  go_wp2_with fail
  refine (srright_any _ A c xs _ ha0).mono ?_
  rintro e w2 ⟨rfl, hb2⟩
  rw [H1.out]
  obtain ⟨v1, v2, _, _⟩ := (k1.below hb2 (Nat.le_refl _)).both
  have ha2 := ha0.below hb2 (Nat.le_refl _)
  go_wp2_with fail
  refine (rmade_any (!n) A c xs w2 ha2).mono ?_
  generalize (!n && decide (xs ≠ [])) = sq at *
  rintro e w3 ⟨rfl, hb3⟩
  have m4 := (k4.below hb2 (Nat.le_refl _)).below hb3 (Nat.le_refl _)
  have hr5 := ha2.below hb3 (Nat.le_refl _)
  have hbel5 := below_trans (below_trans hb0 hb2) hb3
  go_wp2_with ((with_reducible show wpList _ _ _ (Oper.mk none (Op.store _ _ _) _ _ _ _ :: _) _ _); refine wp_put (o := ⟨none, .store _ _ _, _, _, _, _⟩) _ _ m4 rfl rfl rfl rfl info_rint rfl rfl ?_; intro wA a3 gA; obtain ⟨v5, v6, _, _⟩ := a3.both)
  rw [HE.out]
  exact bodyPost_ret (v := .tuple #[iv sq A xs.length c, .int .i64 0]) (by simp [results, Try.results66, go_sem, v5, v6]) rfl ⟨⟨A, c, rfl, hr5.turn gA m4.ib⟩, below_grown hbel5 gA hbel5.size (by omega)⟩

theorem rof_use {u : Nat} {U : Int} {w : World} (h : U = (u : Int)) (hu : u < 18446744073709551616) : Calls Try.prog 80 #[.int .u64 U] w fun e w' => RetS w w' e (dig u) := by
  subst h
  exact rof_any u w hu
theorem plus_lit {A : Option Addr} {c k g : Nat} {w : World} (ha : Rd w A c (dig k)) (hg : g = w.heap.size) (hl : (dig k).length ≤ 1000) :
    Calls Try.prog 79 #[.slice A (dig k).length c, .slice (some ⟨g, 0, none⟩) 1 1] (w.alloc (.cells #[.int .u32 1] 108)) fun e w' => RetS (w.alloc (.cells #[.int .u32 1] 108)) w' e (dig (k + 1)) := by
  have h := plus_any A (some ⟨g, 0, none⟩) c 1 (dig k) [1] (w.alloc (.cells #[.int .u32 1] 108)) (ha.alloc _) (lit1 w 1 rfl hg (by decide)) (by omega) (by decide)
  rw [val_dig] at h
  exact h
set_option maxRecDepth 100000 in
set_option maxHeartbeats 400000 in
theorem rsof_any (z : Int) (w : World) (hz : -9223372036854775808 ≤ z) (hz' : z ≤ 9223372036854775807) :
    Calls Try.prog 53 #[.int .i64 z] w fun e w' => RetN w w' e (sN z, sD z) := by
  have hb0 := below_alloc1 w (.cells #[.bool false, .slice none 0 0] 24)
  have k1 := Blk.new w 24 #[.bool false, .slice none 0 0]
  by_cases h : z < 0
  · have HD : Hid (sN z = true ∧ sD z = dig ((-(z + 1)).toNat + 1)) := by
      obtain ⟨e1, e2⟩ := sd_neg h
      exact ⟨e1, e2.trans (by congr 1; omega)⟩
    have HQ : Hid (decide (dig ((-(z + 1)).toNat + 1) ≠ []) = true) := decide_eq_true (fun e => by have := dig_eq_nil.1 e; omega)
    have HL : Hid ((dig (-(z + 1)).toNat).length ≤ 1000) := Nat.le_trans (dig_length_le (k := 2) (show (-(z + 1)).toNat < 4294967296 ^ 2 by omega)) (by decide)
    have HU : Hid (-(z + 1) = (((-(z + 1)).toNat : Nat) : Int)) := by unfold Hid; omega
    have HB : Hid ((-(z + 1)).toNat < 18446744073709551616) := by unfold Hid; omega
    go_enter Try.func53, Try.ntmps53
    go_wp2_with fail
    refine (rof_use HU.out HB.out).mono ?_
    rintro e w2 ⟨⟨A2, c2, rfl, hr2⟩, hb2⟩
    have k2 := k1.below hb2 (Nat.le_refl _)
    have hbel := below_trans hb0 hb2
    clear hb0 hb2 k1
    go_wp2_with fail
    refine (plus_lit hr2 rfl HL.out).mono ?_
    rintro e w3 ⟨⟨A3, c3, rfl, hr3⟩, hb3⟩
    have k3 := (k2.alloc _).below hb3 (Nat.le_refl _)
    have hbel3 := below_trans (below_alloc hbel (Nat.le_refl _) _) hb3
    clear hb3 hbel k2
    go_wp2_with fail
    refine (rmade_any true A3 c3 _ w3 hr3).mono ?_
    rw [HQ.out]
    rintro e w4 ⟨rfl, hb4⟩
    have k4 := k3.below hb4 (Nat.le_refl _)
    have hr4 := hr3.below hb4 (Nat.le_refl _)
    have hbel4 := below_trans hbel3 hb4
    clear hb4 hbel3 k3
    go_wp2_with ((with_reducible show wpList _ _ _ (Oper.mk none (Op.store _ _ _) _ _ _ _ :: _) _ _); refine wp_put (o := ⟨none, .store _ _ _, _, _, _, _⟩) _ _ k4 rfl rfl rfl rfl info_rint rfl rfl ?_; intro w5 i5 g5; obtain ⟨v5, v6, v7, v8⟩ := i5.both)
    rw [HD.out.1, HD.out.2]
    exact bodyPost_ret (v := iv true A3 (dig ((-(z + 1)).toNat + 1)).length c3) (by simp [results, Try.results53, go_sem, v5, v6]) rfl ⟨⟨A3, c3, rfl, hr4.turn g5 k4.ib⟩, below_grown hbel4 g5 hbel4.size (Nat.le_refl _)⟩
  · have HD := Lib.hid (sd_pos (Int.not_lt.1 h))
    have HU : Hid (z = ((z.toNat : Nat) : Int)) := by unfold Hid; omega
    have HB : Hid (z.toNat < 18446744073709551616) := by unfold Hid; omega
    go_enter Try.func53, Try.ntmps53
    go_wp2_with fail
    refine (rof_use HU.out HB.out).mono ?_
    rintro e w2 ⟨⟨A2, c2, rfl, hr2⟩, hb2⟩
    have k2 := k1.below hb2 (Nat.le_refl _)
    have hbel := below_trans hb0 hb2
    clear hb0 hb2 k1
    go_wp2_with fail
    refine (rmade_any false A2 c2 _ w2 hr2).mono ?_
    rintro e w4 ⟨rfl, hb4⟩
    have k4 := k2.below hb4 (Nat.le_refl _)
    have hr4 := hr2.below hb4 (Nat.le_refl _)
    have hbel4 := below_trans hbel hb4
    go_wp2_with ((with_reducible show wpList _ _ _ (Oper.mk none (Op.store _ _ _) _ _ _ _ :: _) _ _); refine wp_put (o := ⟨none, .store _ _ _, _, _, _, _⟩) _ _ k4 rfl rfl rfl rfl info_rint rfl rfl ?_; intro w5 i5 g5; obtain ⟨v5, v6, v7, v8⟩ := i5.both)
    rw [HD.out.1, HD.out.2]
    exact bodyPost_ret (v := iv false A2 (dig z.toNat).length c2) (by simp [results, Try.results53, go_sem, v5, v6]) rfl ⟨⟨A2, c2, rfl, hr4.turn g5 k4.ib⟩, below_grown hbel4 g5 hbel4.size (Nat.le_refl _)⟩

end Go.Proofs.Ytdhikpfppbcjkaa

namespace Go.Proofs.Ytdhikpfppbcjkaa
open Go.RowKit Num

theorem same_any' (A B : Option Addr) (c d : Nat) (xs ys : List Nat) (w : World) (ha : Rd w A c xs) (hb : Rd w B d ys) (hs : xs.length ≤ 1000000) (ht : ys.length ≤ 1000000) :
    Calls Try.prog 58 #[.slice A xs.length c, .slice B ys.length d] w fun e w' => e = .returned (.bool (decide (xs = ys))) ∧ Below w.heap.size w w' :=
  (same_any A B c d xs ys w ha hb hs ht).mono fun _ _ ⟨h1, h2⟩ => ⟨h1, h2.below _⟩
set_option maxRecDepth 100000 in
set_option maxHeartbeats 400000 in
theorem rssame_any (n m : Bool) (A B : Option Addr) (c d : Nat) (xs ys : List Nat) (w : World) (ha : Rd w A c xs) (hb : Rd w B d ys) (hs : xs.length ≤ 1000000) (ht : ys.length ≤ 1000000) :
    Calls Try.prog 29 #[iv n A xs.length c, iv m B ys.length d] w fun e w' => e = .returned (.bool ((n == m) && decide (xs = ys))) ∧ Below w.heap.size w w' := by
  have ha0 := (ha.alloc (.cells #[.bool n, .slice A xs.length c] 24)).alloc (.cells #[.bool (m), .slice B ys.length d] 24)
  have hy0 := (hb.alloc (.cells #[.bool n, .slice A xs.length c] 24)).alloc (.cells #[.bool (m), .slice B ys.length d] 24)
  have hb0 := below_alloc (below_alloc1 w (.cells #[.bool n, .slice A xs.length c] 24)) (Nat.le_refl _) (.cells #[.bool (m), .slice B ys.length d] 24)
  have k1 : Blk ((w.alloc (.cells #[.bool n, .slice A xs.length c] 24)).alloc (.cells #[.bool (m), .slice B ys.length d] 24)) w.heap.size _ _ := (Blk.new w 24 #[.bool n, .slice A xs.length c]).alloc _
  have k2 : Blk ((w.alloc (.cells #[.bool n, .slice A xs.length c] 24)).alloc (.cells #[.bool (m), .slice B ys.length d] 24)) (w.heap.size + 1) _ _ := Blk.at_ (by simp)
  rcases Bool.eq_false_or_eq_true (n == m) with hnm | hnm
  · rw [hnm]
    go_enter Try.func29, Try.ntmps29
    go_wp2_with fail
    refine (same_any' A B c d xs ys _ ha0 hy0 hs ht).mono ?_
    rintro e w2 ⟨rfl, hb2⟩
    go_wp2
    go_ret
    exact ⟨rfl, below_trans hb0 hb2⟩
  · rw [hnm]
    go_enter Try.func29, Try.ntmps29
    go_wp2
    go_ret
    exact ⟨by simp, hb0⟩

theorem slt_nn (xs ys : List Nat) : decide (sv true xs < sv true ys) = decide (val ys < val xs) := by
  unfold sv
  simp
theorem slt_pp (xs ys : List Nat) : decide (sv false xs < sv false ys) = decide (val xs < val ys) := by
  unfold sv
  simp
theorem slt_np {xs ys : List Nat} (ho : Ok xs) (h : sright true xs = true) : decide (sv true xs < sv false ys) = true := by
  have := val_pos_right ho (sright_rightB h) (sright_ne h)
  unfold sv
  simp
  omega
theorem slt_pn {xs ys : List Nat} : decide (sv false xs < sv true ys) = false := by
  unfold sv
  simp
  try omega
theorem less_any' (A B : Option Addr) (c d : Nat) (xs ys : List Nat) (w : World) (ha : Rd w A c xs) (hb : Rd w B d ys) (hx : dig (val xs) = xs) (hy : dig (val ys) = ys) (hs : xs.length ≤ 10000) (ht : ys.length ≤ 10000) :
    Calls Try.prog 83 #[.slice A xs.length c, .slice B ys.length d] w fun e w' => e = .returned (.bool (decide (val xs < val ys))) ∧ Below w.heap.size w w' :=
  (less_eq hx.symm hy.symm ha hb hs ht).mono fun _ _ ⟨h1, h2⟩ => ⟨h1, h2.below _⟩
set_option maxRecDepth 100000 in
set_option maxHeartbeats 400000 in
theorem rsless_any (n m : Bool) (A B : Option Addr) (c d : Nat) (xs ys : List Nat) (w : World) (ha : Rd w A c xs) (hb : Rd w B d ys) (h1 : sright n xs = true) (h2 : sright m ys = true) :
    Calls Try.prog 89 #[iv n A xs.length c, iv m B ys.length d] w fun e w' => e = .returned (.bool (decide (sv n xs < sv m ys))) ∧ Below w.heap.size w w' := by
  have HX := Lib.hid (right_dig ha.ok (sright_rightB h1))
  have HY := Lib.hid (right_dig hb.ok (sright_rightB h2))
  have lx := right_len (sright_rightB h1)
  have ly := right_len (sright_rightB h2)
  have ha0 := (ha.alloc (.cells #[.bool n, .slice A xs.length c] 24)).alloc (.cells #[.bool (m), .slice B ys.length d] 24)
  have hy0 := (hb.alloc (.cells #[.bool n, .slice A xs.length c] 24)).alloc (.cells #[.bool (m), .slice B ys.length d] 24)
  have hb0 := below_alloc (below_alloc1 w (.cells #[.bool n, .slice A xs.length c] 24)) (Nat.le_refl _) (.cells #[.bool (m), .slice B ys.length d] 24)
  have k1 : Blk ((w.alloc (.cells #[.bool n, .slice A xs.length c] 24)).alloc (.cells #[.bool (m), .slice B ys.length d] 24)) w.heap.size _ _ := (Blk.new w 24 #[.bool n, .slice A xs.length c]).alloc _
  have k2 : Blk ((w.alloc (.cells #[.bool n, .slice A xs.length c] 24)).alloc (.cells #[.bool (m), .slice B ys.length d] 24)) (w.heap.size + 1) _ _ := Blk.at_ (by simp)
  cases n
  · cases m
    · have HE := Lib.hid (slt_pp xs ys)
      clear h1 h2
      go_enter Try.func89, Try.ntmps89
      go_wp2_with fail
      refine (less_any' A B c d xs ys _ ha0 hy0 HX.out HY.out (by omega) (by omega)).mono ?_
      rw [← HE.out]
      rintro e w2 ⟨rfl, hb2⟩
      go_wp2
      go_ret
      exact ⟨rfl, below_trans hb0 hb2⟩
    · have HE := Lib.hid (slt_pn (xs := xs) (ys := ys))
      clear h1 h2
      go_enter Try.func89, Try.ntmps89
      go_wp2
      go_ret
      rw [HE.out]
      exact ⟨rfl, hb0⟩
  · cases m
    · have HE := Lib.hid (slt_np (ys := ys) ha.ok h1)
      clear h1 h2
      go_enter Try.func89, Try.ntmps89
      go_wp2
      go_ret
      rw [HE.out]
      exact ⟨rfl, hb0⟩
    · have HE := Lib.hid (slt_nn xs ys)
      clear h1 h2
      go_enter Try.func89, Try.ntmps89
      go_wp2_with fail
      refine (less_any' B A d c ys xs _ hy0 ha0 HY.out HX.out (by omega) (by omega)).mono ?_
      rw [← HE.out]
      rintro e w2 ⟨rfl, hb2⟩
      go_wp2
      go_ret
      exact ⟨rfl, below_trans hb0 hb2⟩

set_option maxRecDepth 100000 in
set_option maxHeartbeats 1000000 in
theorem rscmp_any (n m : Bool) (A B : Option Addr) (c d : Nat) (xs ys : List Nat) (w : World) (ha : Rd w A c xs) (hb : Rd w B d ys) :
    Calls Try.prog 67 #[iv n A xs.length c, iv m B ys.length d] w fun e w' => e = .returned (.tuple #[.int .i64 (scmpR n xs m ys).1, .int .i64 (scmpR n xs m ys).2]) ∧ Below w.heap.size w w' := by
  have ha0 := (ha.alloc (.cells #[.bool n, .slice A xs.length c] 24)).alloc (.cells #[.bool (m), .slice B ys.length d] 24)
  have hy0 := (hb.alloc (.cells #[.bool n, .slice A xs.length c] 24)).alloc (.cells #[.bool (m), .slice B ys.length d] 24)
  have hb0 := below_alloc (below_alloc1 w (.cells #[.bool n, .slice A xs.length c] 24)) (Nat.le_refl _) (.cells #[.bool (m), .slice B ys.length d] 24)
  have k1 : Blk ((w.alloc (.cells #[.bool n, .slice A xs.length c] 24)).alloc (.cells #[.bool (m), .slice B ys.length d] 24)) w.heap.size _ _ := (Blk.new w 24 #[.bool n, .slice A xs.length c]).alloc _
  have k2 : Blk ((w.alloc (.cells #[.bool n, .slice A xs.length c] 24)).alloc (.cells #[.bool (m), .slice B ys.length d] 24)) (w.heap.size + 1) _ _ := Blk.at_ (by simp)
  rcases Bool.eq_false_or_eq_true (sright n xs) with h1 | h1
  case inr =>
    have HE := Lib.hid (scmpR_no (n := n) (m := m) (xs := xs) (ys := ys) (by rw [h1]; rfl))
    have H1 := Lib.hid h1
    clear h1
    go_enter Try.func67, Try.ntmps67
    go_wp2_with fail
    refine (srright_any _ A c xs _ ha0).mono ?_
    rintro e w2 ⟨rfl, hb2⟩
    rw [H1.out]
    have j1 := k1.below hb2 (Nat.le_refl _)
    have j2 := k2.below hb2 (Nat.le_refl _)
    obtain ⟨v1, v2, _, _⟩ := j1.both
    obtain ⟨v3, v4, _, _⟩ := j2.both
    have ha2 := ha0.below hb2 (Nat.le_refl _)
    have hy2 := hy0.below hb2 (Nat.le_refl _)
    have hbel := below_trans hb0 hb2
    clear hb2 k1 k2 ha0 hy0 hb0
    go_wp2
    go_ret2
    rw [HE.out]
    exact ⟨rfl, hbel⟩
  rcases Bool.eq_false_or_eq_true (sright m ys) with h2 | h2
  case inr =>
    have HE := Lib.hid (scmpR_no (n := n) (m := m) (xs := xs) (ys := ys) (by rw [h1, h2]; rfl))
    have H1 := Lib.hid h1
    have H2 := Lib.hid h2
    clear h1 h2
    go_enter Try.func67, Try.ntmps67
    go_wp2_with fail
    refine (srright_any _ A c xs _ ha0).mono ?_
    rintro e w2 ⟨rfl, hb2⟩
    rw [H1.out]
    have j1 := k1.below hb2 (Nat.le_refl _)
    have j2 := k2.below hb2 (Nat.le_refl _)
    obtain ⟨v1, v2, _, _⟩ := j1.both
    obtain ⟨v3, v4, _, _⟩ := j2.both
    have ha2 := ha0.below hb2 (Nat.le_refl _)
    have hy2 := hy0.below hb2 (Nat.le_refl _)
    have hbel := below_trans hb0 hb2
    clear hb2 k1 k2 ha0 hy0 hb0
    go_wp2_with fail
    refine (srright_any _ B d ys _ hy2).mono ?_
    rintro e w3 ⟨rfl, hb3⟩
    rw [H2.out]
    have i1 := j1.below hb3 (Nat.le_refl _)
    have i2 := j2.below hb3 (Nat.le_refl _)
    clear v1 v2 v3 v4
    obtain ⟨v1, v2, _, _⟩ := i1.both
    obtain ⟨v3, v4, _, _⟩ := i2.both
    have ha3 := ha2.below hb3 (Nat.le_refl _)
    have hy3 := hy2.below hb3 (Nat.le_refl _)
    have hbel3 := below_trans hbel hb3
    clear hb3 hbel ha2 hy2 j1 j2
    go_wp2
    go_ret2
    rw [HE.out]
    exact ⟨rfl, hbel3⟩
  have HE := Lib.hid (scmpR_eq h1 h2)
  have H1 := Lib.hid h1
  have H2 := Lib.hid h2
  clear h1 h2
  rcases Bool.eq_false_or_eq_true (decide (sv n xs < sv m ys)) with h3 | h3
  · have H3 := Lib.hid h3
    clear h3
    go_enter Try.func67, Try.ntmps67
    go_wp2_with fail
    refine (srright_any _ A c xs _ ha0).mono ?_
    rintro e w2 ⟨rfl, hb2⟩
    rw [H1.out]
    have j1 := k1.below hb2 (Nat.le_refl _)
    have j2 := k2.below hb2 (Nat.le_refl _)
    obtain ⟨v1, v2, _, _⟩ := j1.both
    obtain ⟨v3, v4, _, _⟩ := j2.both
    have ha2 := ha0.below hb2 (Nat.le_refl _)
    have hy2 := hy0.below hb2 (Nat.le_refl _)
    have hbel := below_trans hb0 hb2
    clear hb2 k1 k2 ha0 hy0 hb0
    go_wp2_with fail
    refine (srright_any _ B d ys _ hy2).mono ?_
    rintro e w3 ⟨rfl, hb3⟩
    rw [H2.out]
    have i1 := j1.below hb3 (Nat.le_refl _)
    have i2 := j2.below hb3 (Nat.le_refl _)
    clear v1 v2 v3 v4
    obtain ⟨v1, v2, _, _⟩ := i1.both
    obtain ⟨v3, v4, _, _⟩ := i2.both
    have ha3 := ha2.below hb3 (Nat.le_refl _)
    have hy3 := hy2.below hb3 (Nat.le_refl _)
    have hbel3 := below_trans hbel hb3
    clear hb3 hbel ha2 hy2 j1 j2
    go_wp2_with fail
    refine (rsless_any n m A B c d xs ys _ ha3 hy3 H1.out H2.out).mono ?_
    rintro e w4 ⟨rfl, hb4⟩
    rw [H3.out]
    go_wp2
    go_ret2
    rw [HE.out, show cmpZ (sv n xs) (sv m ys) = -1 from if_pos (of_decide_eq_true H3.out)]
    exact ⟨rfl, below_trans hbel3 hb4⟩
  · have H3 := Lib.hid h3
    clear h3
    rcases Bool.eq_false_or_eq_true (decide (sv m ys < sv n xs)) with h4 | h4
    · have H4 := Lib.hid h4
      clear h4
      go_enter Try.func67, Try.ntmps67
      go_wp2_with fail
      refine (srright_any _ A c xs _ ha0).mono ?_
      rintro e w2 ⟨rfl, hb2⟩
      rw [H1.out]
      have j1 := k1.below hb2 (Nat.le_refl _)
      have j2 := k2.below hb2 (Nat.le_refl _)
      obtain ⟨v1, v2, _, _⟩ := j1.both
      obtain ⟨v3, v4, _, _⟩ := j2.both
      have ha2 := ha0.below hb2 (Nat.le_refl _)
      have hy2 := hy0.below hb2 (Nat.le_refl _)
      have hbel := below_trans hb0 hb2
      clear hb2 k1 k2 ha0 hy0 hb0
      go_wp2_with fail
      refine (srright_any _ B d ys _ hy2).mono ?_
      rintro e w3 ⟨rfl, hb3⟩
      rw [H2.out]
      have i1 := j1.below hb3 (Nat.le_refl _)
      have i2 := j2.below hb3 (Nat.le_refl _)
      clear v1 v2 v3 v4
      obtain ⟨v1, v2, _, _⟩ := i1.both
      obtain ⟨v3, v4, _, _⟩ := i2.both
      have ha3 := ha2.below hb3 (Nat.le_refl _)
      have hy3 := hy2.below hb3 (Nat.le_refl _)
      have hbel3 := below_trans hbel hb3
      clear hb3 hbel ha2 hy2 j1 j2
      go_wp2_with fail
      refine (rsless_any n m A B c d xs ys _ ha3 hy3 H1.out H2.out).mono ?_
      rintro e w4 ⟨rfl, hb4⟩
      rw [H3.out]
      have l1 := i1.below hb4 (Nat.le_refl _)
      have l2 := i2.below hb4 (Nat.le_refl _)
      clear v1 v2 v3 v4
      obtain ⟨v1, v2, _, _⟩ := l1.both
      obtain ⟨v3, v4, _, _⟩ := l2.both
      go_wp2_with fail
      refine (rsless_any m n B A d c ys xs _ (hy3.below hb4 (Nat.le_refl _)) (ha3.below hb4 (Nat.le_refl _)) H2.out H1.out).mono ?_
      rintro e w5 ⟨rfl, hb5⟩
      rw [H4.out]
      go_wp2
      go_ret2
      rw [HE.out, show cmpZ (sv n xs) (sv m ys) = 1 from (if_neg (of_decide_eq_false H3.out)).trans (if_pos (of_decide_eq_true H4.out))]
      exact ⟨rfl, below_trans (below_trans hbel3 hb4) hb5⟩
    · have H4 := Lib.hid h4
      clear h4
      go_enter Try.func67, Try.ntmps67
      go_wp2_with fail
      refine (srright_any _ A c xs _ ha0).mono ?_
      rintro e w2 ⟨rfl, hb2⟩
      rw [H1.out]
      have j1 := k1.below hb2 (Nat.le_refl _)
      have j2 := k2.below hb2 (Nat.le_refl _)
      obtain ⟨v1, v2, _, _⟩ := j1.both
      obtain ⟨v3, v4, _, _⟩ := j2.both
      have ha2 := ha0.below hb2 (Nat.le_refl _)
      have hy2 := hy0.below hb2 (Nat.le_refl _)
      have hbel := below_trans hb0 hb2
      clear hb2 k1 k2 ha0 hy0 hb0
      go_wp2_with fail
      refine (srright_any _ B d ys _ hy2).mono ?_
      rintro e w3 ⟨rfl, hb3⟩
      rw [H2.out]
      have i1 := j1.below hb3 (Nat.le_refl _)
      have i2 := j2.below hb3 (Nat.le_refl _)
      clear v1 v2 v3 v4
      obtain ⟨v1, v2, _, _⟩ := i1.both
      obtain ⟨v3, v4, _, _⟩ := i2.both
      have ha3 := ha2.below hb3 (Nat.le_refl _)
      have hy3 := hy2.below hb3 (Nat.le_refl _)
      have hbel3 := below_trans hbel hb3
      clear hb3 hbel ha2 hy2 j1 j2
      go_wp2_with fail
      refine (rsless_any n m A B c d xs ys _ ha3 hy3 H1.out H2.out).mono ?_
      rintro e w4 ⟨rfl, hb4⟩
      rw [H3.out]
      have l1 := i1.below hb4 (Nat.le_refl _)
      have l2 := i2.below hb4 (Nat.le_refl _)
      clear v1 v2 v3 v4
      obtain ⟨v1, v2, _, _⟩ := l1.both
      obtain ⟨v3, v4, _, _⟩ := l2.both
      go_wp2_with fail
      refine (rsless_any m n B A d c ys xs _ (hy3.below hb4 (Nat.le_refl _)) (ha3.below hb4 (Nat.le_refl _)) H2.out H1.out).mono ?_
      rintro e w5 ⟨rfl, hb5⟩
      rw [H4.out]
      go_wp2
      go_ret2
      rw [HE.out, show cmpZ (sv n xs) (sv m ys) = 0 from (if_neg (of_decide_eq_false H3.out)).trans (if_neg (of_decide_eq_false H4.out))]
      exact ⟨rfl, below_trans (below_trans hbel3 hb4) hb5⟩

end Go.Proofs.Ytdhikpfppbcjkaa

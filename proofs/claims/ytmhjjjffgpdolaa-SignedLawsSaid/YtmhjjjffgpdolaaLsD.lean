/-
  SignedGcd: the closure 'divides'.
-/
import Derived.Test.YtmhjjjffgpdolaaLsC
set_option linter.unusedSimpArgs false
set_option linter.unusedVariables false
namespace Go.Proofs.Ytmhjjjffgpdolaa
open Go.RowKit Num

theorem sdiv_eq' {n m : Bool} {A B : Option Addr} {c d : Nat} {xs ys : List Nat} {w : World} {r : R5} (h : sdivR n xs m ys = r) (ha : Rd w A c xs) (hb : Rd w B d ys) :
    Calls Try.prog 13 #[iv n A xs.length c, iv m B ys.length d] w fun e w' => RetII w w' e r := by
  subst h
  exact sdivmod_any n m A B c d xs ys w ha hb
/-- 'divides(x, y)': is nothing left of y by x? -/
def dvdR (n : Bool) (xs : List Nat) (m : Bool) (ys : List Nat) : Bool := decide ((sdivR m ys n xs).2.2.2.2 = 0) && decide ((sdivR m ys n xs).2.2.2.1 = [])
set_option maxRecDepth 100000 in
set_option maxHeartbeats 400000 in
theorem divides_any (n m : Bool) (A B : Option Addr) (c d : Nat) (xs ys : List Nat) (w : World) (ha : Rd w A c xs) (hb : Rd w B d ys) :
    Calls Try.prog 21 #[iv n A xs.length c, iv m B ys.length d] w fun e w' => e = .returned (.bool (dvdR n xs m ys)) ∧ Below w.heap.size w w' := by
  have M : Mem w ((w.alloc (.cells #[.bool n, .slice A xs.length c] 27)).alloc (.cells #[.bool m, .slice B ys.length d] 27)) [(w.heap.size + 1, 27, #[.bool m, .slice B ys.length d]), (w.heap.size, 27, #[.bool n, .slice A xs.length c])] [(B, d, ys), (A, c, xs)] :=
    (((((Mem.start w).addR ha).addR hb).new 27 #[.bool n, .slice A xs.length c]).newAt (by simp) 27 #[.bool m, .slice B ys.length d])
  generalize hR : sdivR m ys n xs = r
  have HR := Lib.hid hR
  have HE : Hid (dvdR n xs m ys = (decide (r.2.2.2.2 = 0) && decide (r.2.2.2.1 = []))) := by unfold Hid dvdR; rw [hR]
  clear hR ha hb
  obtain ⟨q1, q2, q3, q4, q5⟩ := r
  by_cases h5 : q5 = 0
  · subst h5
    by_cases h4 : q4 = []
    · subst h4
      have HB : Hid (dvdR n xs m ys = true) := by unfold Hid; rw [HE.out]; rfl
      go_enter Try.func21, Try.ntmps21
      go_wp2_with fail
      refine (sdiv_eq' HR.out (M.r (i := 0) rfl) (M.r (i := 1) rfl)).mono ?_
      rintro e w2 ⟨⟨A2, c2, B2, d2, rfl, h2, h3⟩, q⟩
      replace M := M.below q
      go_wp2
      go_ret
      rw [HB.out]
      exact ⟨rfl, below_alloc (below_alloc M.bel (Nat.le_refl _) _) (Nat.le_refl _) _⟩
    · have HB : Hid (dvdR n xs m ys = false) := by unfold Hid; rw [HE.out]; simp [h4]
      have h4' : 0 < q4.length := List.length_pos_iff.2 h4
      have h4b : ((q4.length : Int) == 0) = false := beq_eq_false_iff_ne.2 (by omega)
      clear h4
      go_enter Try.func21, Try.ntmps21
      go_wp2_with fail
      refine (sdiv_eq' HR.out (M.r (i := 0) rfl) (M.r (i := 1) rfl)).mono ?_
      rintro e w2 ⟨⟨A2, c2, B2, d2, rfl, h2, h3⟩, q⟩
      replace M := M.below q
      go_wp2
      go_ret
      rw [HB.out]
      exact ⟨rfl, below_alloc (below_alloc M.bel (Nat.le_refl _) _) (Nat.le_refl _) _⟩
  · have HB : Hid (dvdR n xs m ys = false) := by unfold Hid; rw [HE.out]; simp [h5]
    have h5b : (q5 == 0) = false := beq_eq_false_iff_ne.2 h5
    clear h5
    go_enter Try.func21, Try.ntmps21
    go_wp2_with fail
    refine (sdiv_eq' HR.out (M.r (i := 0) rfl) (M.r (i := 1) rfl)).mono ?_
    rintro e w2 ⟨⟨A2, c2, B2, d2, rfl, h2, h3⟩, q⟩
    replace M := M.below q
    go_wp2
    go_ret
    rw [HB.out]
    exact ⟨rfl, below_alloc (below_alloc M.bel (Nat.le_refl _) _) (Nat.le_refl _) _⟩

theorem fdiv_len {n m : Bool} {a b : Nat} (hb : 0 < b) (ha : a < 4294967296 ^ 100) : (sD (Int.fdiv (zn n a) (zn m b))).length ≤ 256 := by
  have h1 : a / b ≤ a := Nat.div_le_self _ _
  have hq : (dig (a / b)).length ≤ 256 := Nat.le_trans (dig_length_le (Nat.lt_of_le_of_lt h1 ha)) (by decide)
  have hq1 : (dig (a / b + 1)).length ≤ 256 := Nat.le_trans (sum_len (k := 100) (Nat.lt_of_le_of_lt h1 ha) (by decide)) (by decide)
  rcases Bool.eq_false_or_eq_true (n == m) with hnm | hnm
  · obtain rfl : n = m := by simpa using hnm
    obtain ⟨e1, _⟩ := fdiv_same n a b hb
    unfold zn
    rw [e1]
    exact hq
  · obtain rfl : m = !n := by cases n <;> cases m <;> simp at hnm ⊢
    by_cases h : a % b = 0
    · obtain ⟨e1, _⟩ := fdiv_zero n a b hb h
      unfold zn
      rw [e1, sD_neg]
      exact hq
    · obtain ⟨e1, _⟩ := fdiv_down n a b hb h
      unfold zn
      rw [e1, sD_neg]
      exact hq1
theorem fmod_zero {n m : Bool} {a b : Nat} (hb : 0 < b) : Int.fmod (zn n a) (zn m b) = 0 ↔ b ∣ a := by
  have hlt := Nat.mod_lt a hb
  rcases Bool.eq_false_or_eq_true (n == m) with hnm | hnm
  · obtain rfl : n = m := by simpa using hnm
    obtain ⟨_, e2⟩ := fdiv_same n a b hb
    unfold zn
    rw [e2, Nat.dvd_iff_mod_eq_zero]
    cases n <;> simp <;> omega
  · obtain rfl : m = !n := by cases n <;> cases m <;> simp at hnm ⊢
    rw [Nat.dvd_iff_mod_eq_zero]
    by_cases h : a % b = 0
    · obtain ⟨_, e2⟩ := fdiv_zero n a b hb h
      unfold zn
      rw [e2]
      simp [h]
    · obtain ⟨_, e2⟩ := fdiv_down n a b hb h
      unfold zn
      rw [e2]
      cases n <;> simp <;> omega
theorem val_lt100 {xs : List Nat} (ho : Ok xs) (h : xs.length ≤ 100) : val xs < 4294967296 ^ 100 := Nat.lt_of_lt_of_le (val_lt ho) (Nat.pow_le_pow_right (by decide) h)
theorem dvd_eq {n m : Bool} {xs ys : List Nat} (ho : Ok xs) (ho' : Ok ys) (hx : sright n xs = true) (hy : sright m ys = true) (hne : xs ≠ []) (hl : ys.length ≤ 100) : dvdR n xs m ys = decide (val xs ∣ val ys) := by
  have hp := val_pos_right ho (sright_rightB hx) hne
  unfold dvdR
  rw [sdivR_eq hy hx hne]
  rw [sv_zn, sv_zn, if_pos (fdiv_len hp (val_lt100 ho' hl))]
  have e := fmod_zero (n := m) (m := n) (a := val ys) hp
  show (decide ((0 : Int) = 0) && decide (sD (Int.fmod (zn m (val ys)) (zn n (val xs))) = [])) = _
  by_cases h : val xs ∣ val ys
  · rw [decide_eq_true h, decide_eq_true (sD_nil.2 (e.2 h))]
    rfl
  · rw [decide_eq_false h, decide_eq_false (fun h2 => h (e.1 (sD_nil.1 h2)))]
    rfl
theorem els3 {w : World} {n m l : Bool} {A B D : Option Addr} {xs ys zs : List Nat} {c d f g t : Nat} (hg : g = w.heap.size) (ha : Rd w A c xs) (hb : Rd w B d ys) (hd : Rd w D f zs) :
    Els (w.alloc (.cells #[.bool n, .slice A xs.length c, .bool m, .slice B ys.length d, .bool l, .slice D zs.length f] t)) g [⟨n, A, xs, c⟩, ⟨m, B, ys, d⟩, ⟨l, D, zs, f⟩] := by
  subst hg
  have hk := Blk.new w t #[.bool n, .slice A xs.length c, .bool m, .slice B ys.length d, .bool l, .slice D zs.length f]
  refine ⟨hk.lt, fun i hi => ?_⟩
  match i, hi with
  | 0, _ => exact ⟨(hk.cell 0).trans rfl, (hk.cell 1).trans rfl, ha.alloc _⟩
  | 1, _ => exact ⟨(hk.cell 2).trans rfl, (hk.cell 3).trans rfl, hb.alloc _⟩
  | 2, _ => exact ⟨(hk.cell 4).trans rfl, (hk.cell 5).trans rfl, hd.alloc _⟩
  | i + 3, hi => exact absurd hi (by simp)
theorem few3 {w : World} {n m l : Bool} {A B D : Option Addr} {xs ys zs : List Nat} {c d f g t : Nat} (hg : g = w.heap.size) (ha : Rd w A c xs) (hb : Rd w B d ys) (hd : Rd w D f zs) :
    Calls Try.prog 12 #[.slice (some ⟨g, 0, none⟩) 3 3] (w.alloc (.cells #[.bool n, .slice A xs.length c, .bool m, .slice B ys.length d, .bool l, .slice D zs.length f] t)) fun e w' => e = .returned (.bool (decide (xs.length ≤ 30 ∧ ys.length ≤ 30 ∧ zs.length ≤ 30))) ∧ Below w.heap.size w w' :=
  (few_any g 3 _ _ (by simp) (els3 hg ha hb hd)).mono fun _ _ ⟨h1, h2⟩ => ⟨by rw [h1]; simp [fewL], below_trans (below_alloc1 _ _) h2⟩
def right3 (n : Bool) (xs : List Nat) (m : Bool) (ys : List Nat) (l : Bool) (zs : List Nat) : Bool := sright n xs && (sright m ys && sright l zs)
theorem right3_any {w : World} {n m l : Bool} {A B D : Option Addr} {xs ys zs : List Nat} {c d f g t : Nat} (hg : g = w.heap.size) (ha : Rd w A c xs) (hb : Rd w B d ys) (hd : Rd w D f zs) :
    Calls Try.prog 20 #[.slice (some ⟨g, 0, none⟩) 3 3] (w.alloc (.cells #[.bool n, .slice A xs.length c, .bool m, .slice B ys.length d, .bool l, .slice D zs.length f] t)) fun e w' => e = .returned (.bool (right3 n xs m ys l zs)) ∧ Below w.heap.size w w' :=
  (rightL_any g 3 _ _ (by simp) (els3 hg ha hb hd)).mono fun _ _ ⟨h1, h2⟩ => ⟨by rw [h1]; simp [rightL, right3], below_trans (below_alloc1 _ _) h2⟩
end Go.Proofs.Ytmhjjjffgpdolaa

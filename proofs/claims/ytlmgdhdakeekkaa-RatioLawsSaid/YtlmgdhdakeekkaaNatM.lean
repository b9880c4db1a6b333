/-
  Contracts of Clone, twice, the reference's DivMod.
-/
import Derived.Test.YtlmgdhdakeekkaaNatL
namespace Go.Proofs.Ytlmgdhdakeekkaa
open Go.RowKit Num

theorem add_lit' (b o j : Nat) : (⟨b, o, none⟩ : Addr).add j = ⟨b, o + j, none⟩ := by
  unfold Addr.add
  split <;> simp_all

theorem sum_len_le {m n k : Nat} (h1 : (dig m).length ≤ k) (h2 : (dig n).length ≤ k) : (dig (m + n)).length ≤ k + 1 := sum_len (le_of_dig_length h1) (le_of_dig_length h2)

set_option maxRecDepth 100000 in
set_option maxHeartbeats 1000000 in
theorem twice_any (A : Option Addr) (c m bit : Nat) (w : World) (ha : Rd w A c (dig m)) (hs : (dig m).length ≤ 1000) (hb : bit ≤ 1) :
   Calls Try.prog 54 #[.slice A (dig m).length c, .int .u64 bit] w fun e w' => RetS w w' e (dig (2 * m + bit)) := by
  have hv := val_dig m
  have hvb := val_dig bit
  have hl2 : (dig (m + m)).length ≤ 1001 := by
    have := sum_len_le hs hs
    omega
  have hlb : (dig bit).length ≤ 2 := dig_length_le (by omega)
  go_enter Try.func54, Try.ntmps54
  go_wp2_with fail
  refine (plus_any _ _ _ _ _ _ _ ha ha (by omega) (by omega)).mono ?_
  rintro e w1 ⟨⟨A1, c1, rfl, hr1⟩, hb1⟩
  rw [hv] at hr1 ⊢
  go_wp2_with fail
  refine (rof_any bit _ (by omega)).mono ?_
  rintro e w2 ⟨⟨A2, c2, rfl, hr2⟩, hb2⟩
  have hr1' := hr1.below hb2 (Nat.le_refl _)
  go_wp2_with fail
  refine (plus_any _ _ _ _ _ _ _ hr1' hr2 (by omega) (by omega)).mono ?_
  rintro e w3 ⟨⟨A3, c3, rfl, hr3⟩, hb3⟩
  have e1 : val (dig (m + m)) + val (dig bit) = 2 * m + bit := by rw [val_dig, val_dig]; omega
  rw [e1] at hr3 ⊢
  go_wp2
  go_ret
  exact ⟨⟨A3, c3, rfl, hr3⟩, hb1.trans ((hb2.mono hb1.size).trans (hb3.mono (Nat.le_trans hb1.size hb2.size)))⟩

def divR (xs ys : List Nat) : List Nat × List Nat × Int := if rightB xs && rightB ys && decide (ys ≠ []) then (dig (val xs / val ys), dig (val xs % val ys), 0) else ([], [], 2)
theorem divR_eq {xs ys : List Nat} (h1 : rightB xs = true) (h2 : rightB ys = true) (h : ys ≠ []) : divR xs ys = (dig (val xs / val ys), dig (val xs % val ys), 0) := by simp [divR, h1, h2, h]
theorem divR_no {xs ys : List Nat} (h : (rightB xs && rightB ys && decide (ys ≠ [])) = false) : divR xs ys = ([], [], 2) := by unfold divR; rw [h]; rfl
/-- Two slices, and what is wrong. -/
def RetSSE (w w' : World) (e : Ending) (r : List Nat × List Nat × Int) : Prop :=
  (∃ A c B d, e = .returned (.tuple #[.slice A r.1.length c, .slice B r.2.1.length d, .int .i64 r.2.2]) ∧ Rd w' A c r.1 ∧ Rd w' B d r.2.1) ∧ Below w.heap.size w w'

theorem bit_of {xs : List Nat} (h : Ok xs) (k : Nat) : at0 xs (k / 32) / 2 ^ (k % 32) % 2 = val xs / 2 ^ k % 2 := by
  rw [digit_of h]
  have e1 : (4294967296 : Nat) ^ (k / 32) = 2 ^ (32 * (k / 32)) := by rw [Nat.pow_mul]
  have e2 : (2 : Nat) ^ k = 2 ^ (32 * (k / 32)) * 2 ^ (k % 32) := by rw [← Nat.pow_add]; congr 1; omega
  rw [e1, e2, ← Nat.div_div_eq_div_mul]
  generalize val xs / 2 ^ (32 * (k / 32)) = X
  have hd : (4294967296 : Nat) = 2 ^ (k % 32) * 2 ^ (32 - k % 32) := by rw [← Nat.pow_add, show k % 32 + (32 - k % 32) = 32 by omega]
  rw [hd, Nat.mod_mul_right_div_self]
  have hd2 : (2 : Nat) ∣ 2 ^ (32 - k % 32) := ⟨2 ^ (31 - k % 32), by rw [Nat.mul_comm, ← Nat.pow_succ]; congr 1; omega⟩
  exact Nat.mod_mod_of_dvd _ hd2

theorem half_step (N k : Nat) : N / 2 ^ k = 2 * (N / 2 ^ (k + 1)) + N / 2 ^ k % 2 := by
  rw [Nat.pow_succ, ← Nat.div_div_eq_div_mul]
  omega
theorem bit_step {M V b : Nat} (_hV : 0 < V) (hlt : 2 * (M % V) + b < V) : (2 * M + b) / V = 2 * (M / V) ∧ (2 * M + b) % V = 2 * (M % V) + b := by
  have hm := Nat.div_add_mod M V
  have e : 2 * M + b = (2 * (M % V) + b) + V * (2 * (M / V)) := by
    rw [Nat.mul_left_comm]
    omega
  rw [e, Nat.add_mul_div_left _ _ (by omega), Nat.add_mul_mod_self_left, Nat.div_eq_of_lt hlt, Nat.mod_eq_of_lt hlt]
  exact ⟨by omega, rfl⟩
theorem bit_step1 {M V b : Nat} (hV : 0 < V) (hb : b ≤ 1) (hge : ¬ 2 * (M % V) + b < V) : (2 * M + b) / V = 2 * (M / V) + 1 ∧ (2 * M + b) % V = 2 * (M % V) + b - V := by
  have hm := Nat.div_add_mod M V
  have hlt := Nat.mod_lt M hV
  have e : 2 * M + b = (2 * (M % V) + b - V) + V * (2 * (M / V) + 1) := by
    rw [Nat.mul_add, Nat.mul_left_comm, Nat.mul_one]
    omega
  rw [e, Nat.add_mul_div_left _ _ (by omega), Nat.add_mul_mod_self_left, Nat.div_eq_of_lt (by omega), Nat.mod_eq_of_lt (by omega)]
  exact ⟨by omega, rfl⟩

theorem hrl_le {ys : List Nat} {R : Nat} (h : dig (val ys) = ys) (hl : ys.length ≤ 256) (hR : R < val ys) : (dig (R + 1)).length ≤ 256 := by
  have := dig_len_mono (m := R + 1) (n := val ys) (by omega)
  rw [h] at this
  omega
theorem rless_use {B : Option Addr} {d : Nat} {ys : List Nat} (h : dig (val ys) = ys) (hl : ys.length ≤ 256) (A : Option Addr) (c R : Nat) (w : World) (ha : Rd w A c (dig R)) (hb : Rd w B d ys) (hR : (dig R).length ≤ 1000) :
    Calls Try.prog 55 #[.slice A (dig R).length c, .slice B ys.length d] w fun e w' => e = .returned (.bool (decide (R < val ys))) ∧ Read w w' := by
  rw [← h] at hb
  have := less_any A B c d R (val ys) w ha hb (by omega) (by rw [h]; omega)
  rw [h] at this
  exact this
theorem rminus_use {B : Option Addr} {d : Nat} {ys : List Nat} (h : dig (val ys) = ys) (A : Option Addr) (c R : Nat) (w : World) (ha : Rd w A c (dig R)) (hb : Rd w B d ys) (hR : (dig R).length ≤ 1000) (hle : val ys ≤ R) :
    Calls Try.prog 56 #[.slice A (dig R).length c, .slice B ys.length d] w fun e w' => RetS w w' e (dig (R - val ys)) := by
  have hl := dig_len_mono hle
  rw [h] at hl
  have hm := minus_any A B c d (dig R) ys w ha hb (by omega) hl (by rw [val_dig]; exact hle)
  rw [val_dig] at hm
  exact hm


theorem len_zero_b {ys : List Nat} (h : ys ≠ []) : ((ys.length : Int) == 0) = false := by
  have := List.length_pos_iff.2 h
  simp
  omega

set_option maxRecDepth 100000 in
set_option maxHeartbeats 400000 in
theorem rdivmod_any (A B : Option Addr) (c d : Nat) (xs ys : List Nat) (w : World) (ha : Rd w A c xs) (hb : Rd w B d ys) :
   Calls Try.prog 41 #[.slice A xs.length c, .slice B ys.length d] w fun e w' => RetSSE w w' e (divR xs ys) := by
  by_cases h1 : rightB xs = true
  · by_cases h2 : rightB ys = true
    · by_cases h3 : ys = []
      · have hz : ((ys.length : Int) == 0) = true := by simp [h3]
        have h3' : decide (ys ≠ []) = false := by simp [h3]
        clear h3
        have HE := Lib.hid (divR_no (xs := xs) (ys := ys) (by rw [h3']; simp))
        go_enter Try.func41, Try.ntmps41
        go_wp2_with (go_at_call 40; refine (rright_any _ _ _ _ (by first | exact ha | exact hb)).mono ?_; rintro e w' ⟨rfl, rfl⟩)
        go_ret3
        rw [HE.out]
        exact ⟨⟨none, 0, none, 0, rfl, Rd.nil, Rd.nil⟩, Below.refl _ _⟩
      · have hl1 := right_len h1
        have hl2 := right_len h2
        have hd2 := right_dig hb.ok h2
        have HE := Lib.hid (divR_eq h1 h2 h3)
        have hz := len_zero_b h3
        have hV : 0 < val ys := val_pos_of_last (by rw [← hd2]; exact fine_dig _) h3
        go_enter Try.func41, Try.ntmps41
        go_wp2_with (go_at_call 40; refine (rright_any _ _ _ _ (by first | exact ha | exact hb)).mono ?_; rintro e w' ⟨rfl, rfl⟩)
        go_loopw [7, 8, 9] (fun qv rv i wr => ∃ (k : Nat) (A1 A2 : Option Addr) (c1 c2 : Nat), k ≤ 32 * xs.length ∧ i = .int .i64 ((k : Int) - 1) ∧ qv = .slice A1 (dig (val xs / 2 ^ k / val ys)).length c1 ∧ rv = .slice A2 (dig (val xs / 2 ^ k % val ys)).length c2 ∧
            Rd wr A1 c1 (dig (val xs / 2 ^ k / val ys)) ∧ Rd wr A2 c2 (dig (val xs / 2 ^ k % val ys)) ∧ Below w.heap.size w wr) (fun _ _ i _ => (intOf i + 1).toNat)
        case atStart =>
          have e0 : val xs / 2 ^ (32 * xs.length) = 0 := by
            apply Nat.div_eq_of_lt
            rw [Nat.pow_mul]
            exact val_lt ha.ok
          have e1 : dig (0 / val ys) = [] := by rw [Nat.zero_div]; rfl
          have e2 : dig (0 % val ys) = [] := by rw [Nat.zero_mod]; rfl
          refine ⟨32 * xs.length, none, none, 0, 0, Nat.le_refl _, by go_num, ?_, ?_, ?_, ?_, Below.refl _ _⟩
          all_goals rw [e0]
          all_goals first | rw [e1] | rw [e2]
          all_goals first | rfl | exact Rd.nil
        case round =>
          obtain ⟨k, A1, A2, c1, c2, hk, rfl, rfl, rfl, hr1, hr2, hbel⟩ := hrel
          have hle : val xs < 4294967296 ^ xs.length := val_lt ha.ok
          have hql : ∀ N : Nat, N ≤ val xs → (dig N).length ≤ 256 := fun N h => Nat.le_trans (dig_length_le (Nat.lt_of_le_of_lt h hle)) hl1
          have hrl : ∀ N : Nat, N < val ys → (dig N).length ≤ 256 := fun N h => by
            have := dig_len_mono (m := N) (n := val ys) (by omega)
            rw [hd2] at this
            omega
          cases k with
          | zero =>
            rw [Nat.pow_zero, Nat.div_one] at hr1 hr2 ⊢
            clear hql hrl hle
            go_wp2
            go_ret3
            rw [HE.out]
            exact ⟨⟨A1, c1, A2, c2, rfl, hr1, hr2⟩, hbel⟩
          | succ k =>
            have hkd : k / 32 < xs.length := by omega
            obtain ⟨b1, o1, rfl, hb1, hc1⟩ := ha.at_ (by rintro rfl; simp at hkd)
            have g1 : wr.cell? ⟨b1, o1 + k / 32, none⟩ = some (.int .u32 (xs[k / 32]'hkd)) := (hbel.cell (p := ⟨b1, o1 + k / 32, none⟩) hb1).trans (hc1 _ hkd)
            have hd1 := ha.ok.get hkd
            have hbo := bit_of ha.ok k
            rw [at0_in hkd] at hbo
            clear hc1
            generalize xs[k / 32] = di at *
            obtain ⟨bt, hbt⟩ : ∃ bt, bt = di / 2 ^ (k % 32) % 2 := ⟨_, rfl⟩
            have hbit : ((di : Int) / 2 ^ (k % 32)).tmod 2 = (bt : Int) := by
              have e : ((di : Int) / 2 ^ (k % 32)) = ((di / 2 ^ (k % 32) : Nat) : Int) := by rw [Int.natCast_ediv, Int.natCast_pow]; rfl
              rw [e, hbt]
              generalize di / 2 ^ (k % 32) = X
              rw [Int.tmod_eq_emod_of_nonneg (Int.natCast_nonneg X)]
              omega
            have hb1' : bt ≤ 1 := by omega
            have hN := half_step (val xs) k
            rw [← hbo, ← hbt] at hN
            clear hbo hbt hle
            have q1 := hql (val xs / 2 ^ (k + 1) / val ys) (Nat.le_trans (Nat.div_le_self _ _) (Nat.div_le_self _ _))
            have q2 := hrl (val xs / 2 ^ (k + 1) % val ys) (Nat.mod_lt _ hV)
            have q3 := sum_len_le q2 q2
            have q4 : (dig (2 * (val xs / 2 ^ (k + 1) % val ys) + bt)).length ≤ 300 := by
              have := dig_len_mono (m := 2 * (val xs / 2 ^ (k + 1) % val ys) + bt) (n := (val xs / 2 ^ (k + 1) % val ys + 1) + (val xs / 2 ^ (k + 1) % val ys + 1)) (by omega)
              have h5 := hrl_le hd2 hl2 (Nat.mod_lt (val xs / 2 ^ (k + 1)) hV)
              have := sum_len_le h5 h5
              omega
            have hb2 := hb.below hbel (Nat.le_refl _)
            by_cases hlt : 2 * (val xs / 2 ^ (k + 1) % val ys) + bt < val ys
            · obtain ⟨s1, s2⟩ := bit_step (M := val xs / 2 ^ (k + 1)) hV hlt
              rw [← hN] at s1 s2
              have hdec := decide_lt_true hlt
              have HD := Lib.hid hd2
              have S1 := Lib.hid s1
              have S2 := Lib.hid s2
              clear s1 s2 hN hlt hql hrl hd2
              generalize val xs / 2 ^ (k + 1) / val ys = Q at *
              generalize val xs / 2 ^ (k + 1) % val ys = R at *
              go_wp2_with fail
              refine (twice_any A2 c2 R bt _ hr2 (by omega) hb1').mono ?_
              rintro e w1 ⟨⟨A3, c3, rfl, hr3⟩, hb3⟩
              generalize hR2 : 2 * R + bt = R2 at *
              go_wp2_with fail
              refine (rless_use HD.out hl2 A3 c3 R2 _ hr3 (hb2.below hb3 (Nat.le_refl _)) (by omega)).mono ?_
              rintro e w2 ⟨rfl, n0, rfl⟩
              go_wp2_with fail
              refine ((twice_any A1 c1 Q 0 _ ((hr1.below hb3 (Nat.le_refl _)).drewN n0) (by omega) (by omega)).mono ?_)
              rintro e w4 ⟨⟨A4, c4, rfl, hr4⟩, hb4⟩
              have hb5 : Below w.heap.size w w4 := hbel.trans ((hb3.mono hbel.size).trans (((Read.refl w1).drewN n0 |>.below _).trans (hb4.mono (Nat.le_trans hbel.size hb3.size))))
              go_wp2
              go_roundw
              case rel =>
                have e1 := S1.out
                have e2 := S2.out
                exact ⟨k, A4, A3, c4, c3, by omega, by go_num, by rw [e1], by rw [e2], by rw [e1]; exact hr4, by rw [e2]; exact (hr3.drewN n0).below hb4 (Nat.le_refl _), hb5⟩
              case measure => simp [intOf]
            · obtain ⟨s1, s2⟩ := bit_step1 (M := val xs / 2 ^ (k + 1)) hV hb1' hlt
              rw [← hN] at s1 s2
              have hdec := decide_lt_false hlt
              have hge : val ys ≤ 2 * (val xs / 2 ^ (k + 1) % val ys) + bt := by omega
              have HD := Lib.hid hd2
              have S1 := Lib.hid s1
              have S2 := Lib.hid s2
              clear s1 s2 hN hlt hql hrl hd2
              generalize val xs / 2 ^ (k + 1) / val ys = Q at *
              generalize val xs / 2 ^ (k + 1) % val ys = R at *
              go_wp2_with fail
              refine (twice_any A2 c2 R bt _ hr2 (by omega) hb1').mono ?_
              rintro e w1 ⟨⟨A3, c3, rfl, hr3⟩, hb3⟩
              generalize hR2 : 2 * R + bt = R2 at *
              have hb2' := hb2.below hb3 (Nat.le_refl _)
              go_wp2_with fail
              refine (rless_use HD.out hl2 A3 c3 R2 _ hr3 hb2' (by omega)).mono ?_
              rintro e w2 ⟨rfl, n0, rfl⟩
              go_wp2_with fail
              refine (rminus_use HD.out A3 c3 R2 _ (hr3.drewN n0) (hb2'.drewN n0) (by omega) hge).mono ?_
              rintro e w3 ⟨⟨A5, c5, rfl, hr5⟩, hb6⟩
              go_wp2_with fail
              refine ((twice_any A1 c1 Q 1 _ (((hr1.below hb3 (Nat.le_refl _)).drewN n0).below hb6 (Nat.le_refl _)) (by omega) (by omega)).mono ?_)
              rintro e w4 ⟨⟨A4, c4, rfl, hr4⟩, hb4⟩
              have hb5 : Below w.heap.size w w4 := hbel.trans ((hb3.mono hbel.size).trans (((Read.refl w1).drewN n0 |>.below _).trans ((hb6.mono (Nat.le_trans hbel.size hb3.size)).trans (hb4.mono (Nat.le_trans (Nat.le_trans hbel.size hb3.size) hb6.size)))))
              go_wp2
              go_roundw
              case rel =>
                have e1 := S1.out
                have e2 := S2.out
                exact ⟨k, A4, A5, c4, c5, by omega, by go_num, by rw [e1], by rw [e2], by rw [e1]; exact hr4, by rw [e2]; exact hr5.below hb4 (Nat.le_refl _), hb5⟩
              case measure => simp [intOf]
    · have h2' : rightB ys = false := by simpa using h2
      clear h2
      have HE := Lib.hid (divR_no (xs := xs) (ys := ys) (by rw [h2']; simp))
      go_enter Try.func41, Try.ntmps41
      go_wp2_with (go_at_call 40; refine (rright_any _ _ _ _ (by first | exact ha | exact hb)).mono ?_; rintro e w' ⟨rfl, rfl⟩)
      go_ret3
      rw [HE.out]
      exact ⟨⟨none, 0, none, 0, rfl, Rd.nil, Rd.nil⟩, Below.refl _ _⟩
  · have h1' : rightB xs = false := by simpa using h1
    clear h1
    have HE := Lib.hid (divR_no (xs := xs) (ys := ys) (by rw [h1']; simp))
    go_enter Try.func41, Try.ntmps41
    go_wp2_with (go_at_call 40; refine (rright_any _ _ _ _ (by first | exact ha | exact hb)).mono ?_; rintro e w' ⟨rfl, rfl⟩)
    go_ret3
    rw [HE.out]
    exact ⟨⟨none, 0, none, 0, rfl, Rd.nil, Rd.nil⟩, Below.refl _ _⟩

end Go.Proofs.Ytlmgdhdakeekkaa

/-
  Contracts of fit, digit, Plus, Minus, Add, Sub, Less, Cmp of both.
-/
import Derived.Test.YtlmgdhdakeekkaaNatC
import Derived.Test.YtlmgdhdakeekkaaMulP
namespace Go.Proofs.Ytlmgdhdakeekkaa
open Go.RowKit Num

def fitR (n : Nat) : List Nat × Int := if (dig n).length ≤ 256 then (dig n, 0) else ([], 3)
def addR (xs ys : List Nat) : List Nat × Int := if rightB xs && rightB ys then fitR (val xs + val ys) else ([], 2)
def subR (xs ys : List Nat) : List Nat × Int := if rightB xs && rightB ys && decide (val ys ≤ val xs) then (dig (val xs - val ys), 0) else ([], 2)
def cmpR (xs ys : List Nat) : Int × Int := if rightB xs && rightB ys then (cmpN (val xs) (val ys), 0) else (0, 2)

theorem dig_len_le (xs : List Nat) (h : Ok xs) : (dig (val xs)).length ≤ xs.length := dig_length_le (val_lt h)

set_option maxRecDepth 100000 in
theorem fit_any (A : Option Addr) (c : Nat) (xs : List Nat) (w : World) (h : Rd w A c xs) (hs : xs.length ≤ 1000000) :
   Calls Try.prog 64 #[.slice A xs.length c] w fun e w' => RetSE w w' e (fitR (val xs)) := by
  have hl := dig_len_le xs h.ok
  by_cases hb : (dig (val xs)).length ≤ 256
  · have he : fitR (val xs) = (dig (val xs), 0) := by simp [fitR, hb]
    have He := Lib.hid he
    clear he
    go_enter Try.func64, Try.ntmps64
    go_wp2_with (go_at_call 51; refine (trim_any A c xs _ h hs).mono ?_; rintro e w' ⟨h1, rfl⟩; obtain ⟨rfl, h2⟩ := trim_use h1 h)
    go_ret2
    rw [He.out]
    exact ⟨⟨A, c, rfl, h2⟩, Below.refl _ _⟩
  · have he : fitR (val xs) = ([], 3) := by simp [fitR, hb]
    have He := Lib.hid he
    clear he
    go_enter Try.func64, Try.ntmps64
    go_wp2_with (go_at_call 51; refine (trim_any A c xs _ h hs).mono ?_; rintro e w' ⟨h1, rfl⟩; obtain ⟨rfl, h2⟩ := trim_use h1 h)
    go_ret2
    rw [He.out]
    exact ⟨⟨none, 0, rfl, Rd.nil⟩, Below.refl _ _⟩

set_option maxRecDepth 100000 in
theorem digit_any (A : Option Addr) (c : Nat) (xs : List Nat) (i : Nat) (w : World) (h : Rd w A c xs) (hs : xs.length ≤ 1000000) :
   Calls Try.prog 69 #[.slice A xs.length c, .int .i64 i] w fun e w' => e = .returned (.int .u64 (at0 xs i)) ∧ w = w' := by
  by_cases hi : i < xs.length
  · obtain ⟨b, o, rfl, hb, hc⟩ := h.at_ (by rintro rfl; simp at hi)
    have h1 := hc i hi
    have hd := h.ok.get hi
    have e1 := Lib.hid (at0_in hi)
    clear hc
    go_enter Try.func69, Try.ntmps69
    go_wp2
    go_ret
    exact ⟨by rw [e1.out]; rfl, rfl⟩
  · have e1 := Lib.hid (at0_out hi)
    go_enter Try.func69, Try.ntmps69
    go_wp2
    go_ret
    exact ⟨by rw [e1.out]; rfl, rfl⟩

theorem step_add {P a b o cr dx dy s q : Nat} (h : o + P * cr = a + b) (hs : s + 4294967296 * q = dx + dy + cr) : (o + P * s) + (P * 4294967296) * q = (a + P * dx) + (b + P * dy) := by
  have e : P * s + P * 4294967296 * q = P * dx + P * dy + P * cr := by
    rw [Nat.mul_assoc, ← Nat.mul_add, hs, Nat.mul_add, Nat.mul_add]
  omega
theorem step_sub {P a b o cr dx dy s q : Nat} (h : o + b = a + P * cr) (hs : s + dy + cr = dx + 4294967296 * q) : (o + P * s) + (b + P * dy) = (a + P * dx) + (P * 4294967296) * q := by
  have e : P * s + P * dy + P * cr = P * dx + P * 4294967296 * q := by
    rw [Nat.mul_assoc, ← Nat.mul_add, ← Nat.mul_add, hs, Nat.mul_add]
  omega

theorem carry_out {P o x y cr : Nat} (b1 : x < P) (b2 : y < P) (h3 : o + P * 4294967296 * cr = x + y) : o = x + y := by
  rcases Nat.eq_zero_or_pos cr with hc | hc
  · rw [hc, Nat.mul_zero] at h3
    omega
  · obtain ⟨c', hc'⟩ : ∃ c', cr = c' + 1 := ⟨cr - 1, by omega⟩
    rw [hc', Nat.mul_add, Nat.mul_one] at h3
    generalize P * 4294967296 * c' = Z at h3
    omega

/-- The sum, digit by digit: out so far, the carry. -/
def AddTo (xs ys : List Nat) (k : Nat) (outs : List Nat) (cr : Nat) : Prop := Ok outs ∧ outs.length = k ∧ val outs + 4294967296 ^ k * cr = val (xs.take k) + val (ys.take k)
theorem AddTo.zero (xs ys : List Nat) : AddTo xs ys 0 [] 0 := ⟨Ok.nil, rfl, by simp [val]⟩
theorem AddTo.step {xs ys : List Nat} {k : Nat} {outs : List Nat} {cr s q : Nat} (h : AddTo xs ys k outs cr) (hs : s < 4294967296) (e : s + 4294967296 * q = at0 xs k + at0 ys k + cr) :
    AddTo xs ys (k + 1) (outs ++ [s]) q := by
  obtain ⟨h1, h2, h3⟩ := h
  refine ⟨h1.append (Ok.cons hs Ok.nil), by simp [h2], ?_⟩
  rw [val_snoc, h2, val_take_at0, val_take_at0, Nat.pow_succ]
  generalize 4294967296 ^ k = P at h3 ⊢
  exact step_add h3 e
theorem AddTo.done {xs ys : List Nat} {k : Nat} {outs : List Nat} {cr : Nat} (h : AddTo xs ys k outs cr) (hx : Ok xs) (hy : Ok ys) (h1 : xs.length < k) (h2 : ys.length < k) : val outs = val xs + val ys := by
  obtain ⟨_, _, h3⟩ := h
  rw [List.take_of_length_le (by omega), List.take_of_length_le (by omega)] at h3
  obtain ⟨j, rfl⟩ : ∃ j, k = j + 1 := ⟨k - 1, by omega⟩
  have b1 : val xs < 4294967296 ^ j := Nat.lt_of_lt_of_le (val_lt hx) (Nat.pow_le_pow_right (by decide) (by omega))
  have b2 : val ys < 4294967296 ^ j := Nat.lt_of_lt_of_le (val_lt hy) (Nat.pow_le_pow_right (by decide) (by omega))
  rw [Nat.pow_succ] at h3
  generalize 4294967296 ^ j = P at h3 b1 b2
  exact carry_out b1 b2 h3
/-- The same where one carry more is written behind the longer number's digits. -/
theorem AddTo.last {xs ys : List Nat} {k : Nat} {outs : List Nat} {cr : Nat} (h : AddTo xs ys k outs cr) (h1 : xs.length ≤ k) (h2 : ys.length ≤ k) : val (outs ++ [cr]) = val xs + val ys := by
  obtain ⟨_, hl, h3⟩ := h
  rw [List.take_of_length_le h1, List.take_of_length_le h2] at h3
  rw [val_snoc, hl, h3]

set_option maxRecDepth 100000 in
theorem plus_any (A B : Option Addr) (c d : Nat) (xs ys : List Nat) (w : World) (ha : Rd w A c xs) (hb : Rd w B d ys) (hs : xs.length ≤ 100000) (ht : ys.length ≤ 100000) :
   Calls Try.prog 67 #[.slice A xs.length c, .slice B ys.length d] w fun e w' => RetS w w' e (dig (val xs + val ys)) := by
  obtain ⟨M, hM⟩ : ∃ M : Nat, M = max xs.length ys.length := ⟨_, rfl⟩
  have hM1 : xs.length ≤ M := by omega
  have hM2 : ys.length ≤ M := by omega
  have hM3 : M ≤ 100000 := by omega
  have hmx : (if xs.length < ys.length then (ys.length : Int) else (xs.length : Int)) = (M : Int) := by split <;> omega
  clear hM
  go_enter Try.func67, Try.ntmps67
  go_wp2
  go_loopw [5, 6, 7] (fun v cv i wr => ∃ (k : Nat) (outs : List Nat) (cr : Nat), k ≤ M + 1 ∧ i = .int .i64 k ∧ cv = .int .u64 cr ∧ cr ≤ 1 ∧ AddTo xs ys k outs cr ∧ Own wr w.heap.size v outs ∧ Below w.heap.size w wr) (fun _ _ i _ => M + 1 - (intOf i).toNat)
  case atStart => exact ⟨0, [], 0, by omega, rfl, rfl, by omega, AddTo.zero xs ys, Own.nil _ _, Below.refl _ _⟩
  case round =>
    obtain ⟨k, outs, cr, hk, rfl, rfl, hcr, hadd, hown, hbel⟩ := hrel
    have ha1 := ha.below hbel (Nat.le_refl _)
    have hb1 := hb.below hbel (Nat.le_refl _)
    have hd1 := at0_lt ha.ok k
    have hd2 := at0_lt hb.ok k
    have hol : outs.length ≤ 1000000 := by have := hadd.2.1; omega
    have HA := Lib.hid hadd
    clear hadd
    by_cases hlt : k < M + 1
    · go_wp2_with (first
        | (go_at_call 69; refine (digit_any _ _ _ _ _ (by first | exact ha1 | exact hb1) (by omega)).mono ?_; rintro e w' ⟨rfl, rfl⟩)
        | (at_builtin; refine wp_app1 _ _ wr w.heap.size _ outs ((at0 xs k + at0 ys k + cr) % 4294967296) (by omega) hown hbel.size hol rfl rfl rfl rfl ?_; intro v' w' hown' _ hbel'))
      go_roundw
      case rel => exact ⟨k + 1, _, (at0 xs k + at0 ys k + cr) / 4294967296, by omega, by go_num, by go_num, by omega, HA.out.step (by omega) (by omega), hown', hbel.trans hbel'⟩
      case measure => simp [intOf]; omega
    · go_wp2_with fail
      obtain ⟨A', c', rfl, hr⟩ := hown.rd HA.out.1
      refine (rtrim_any A' c' outs wr hr hol).mono ?_
      rintro e w' ⟨v, rfl, h2, h3⟩
      go_wp2
      go_ret
      have hv := HA.out.done ha.ok hb.ok (by omega) (by omega)
      rw [hv] at h2
      obtain ⟨A2, c2, rfl, hr2⟩ := h2.rd (dig_ok _)
      exact ⟨⟨A2, c2, rfl, hr2⟩, hbel.trans (h3.mono hbel.size)⟩

/-- The difference, digit by digit. -/
def SubTo (xs ys : List Nat) (k : Nat) (outs : List Nat) (cr : Nat) : Prop := Ok outs ∧ outs.length = k ∧ val outs + val (ys.take k) = val (xs.take k) + 4294967296 ^ k * cr
theorem SubTo.zero (xs ys : List Nat) : SubTo xs ys 0 [] 0 := ⟨Ok.nil, rfl, by simp [val]⟩
theorem SubTo.step {xs ys : List Nat} {k : Nat} {outs : List Nat} {cr s q : Nat} (h : SubTo xs ys k outs cr) (hs : s < 4294967296) (e : s + at0 ys k + cr = at0 xs k + 4294967296 * q) :
    SubTo xs ys (k + 1) (outs ++ [s]) q := by
  obtain ⟨h1, h2, h3⟩ := h
  refine ⟨h1.append (Ok.cons hs Ok.nil), by simp [h2], ?_⟩
  rw [val_snoc, h2, val_take_at0, val_take_at0, Nat.pow_succ]
  generalize 4294967296 ^ k = P at h3 ⊢
  exact step_sub h3 e
theorem borrow_out {P o x y cr : Nat} (b1 : o < P) (b2 : y ≤ x) (h3 : o + y = x + P * cr) : o = x - y := by
  rcases Nat.eq_zero_or_pos cr with hc | hc
  · rw [hc, Nat.mul_zero] at h3
    omega
  · obtain ⟨c', hc'⟩ : ∃ c', cr = c' + 1 := ⟨cr - 1, by omega⟩
    rw [hc', Nat.mul_add, Nat.mul_one] at h3
    generalize P * c' = Z at h3
    omega
theorem SubTo.done {xs ys : List Nat} {k : Nat} {outs : List Nat} {cr : Nat} (h : SubTo xs ys k outs cr) (h1 : xs.length ≤ k) (h2 : ys.length ≤ k) (hle : val ys ≤ val xs) : val outs = val xs - val ys := by
  obtain ⟨ho, hl, h3⟩ := h
  rw [List.take_of_length_le h1, List.take_of_length_le h2] at h3
  have b := val_lt ho
  rw [hl] at b
  generalize 4294967296 ^ k = P at h3 b
  exact borrow_out b hle h3

set_option maxRecDepth 100000 in
theorem minus_any (A B : Option Addr) (c d : Nat) (xs ys : List Nat) (w : World) (ha : Rd w A c xs) (hb : Rd w B d ys) (hs : xs.length ≤ 100000) (hl : ys.length ≤ xs.length) (hle : val ys ≤ val xs) :
   Calls Try.prog 56 #[.slice A xs.length c, .slice B ys.length d] w fun e w' => RetS w w' e (dig (val xs - val ys)) := by
  go_enter Try.func56, Try.ntmps56
  go_wp2
  go_loopw [5, 6, 7] (fun v cv i wr => ∃ (k : Nat) (outs : List Nat) (cr : Nat), k ≤ xs.length ∧ i = .int .i64 k ∧ cv = .int .u64 cr ∧ cr ≤ 1 ∧ SubTo xs ys k outs cr ∧ Own wr w.heap.size v outs ∧ Below w.heap.size w wr) (fun _ _ i _ => xs.length - (intOf i).toNat)
  case atStart => exact ⟨0, [], 0, by omega, rfl, rfl, by omega, SubTo.zero xs ys, Own.nil _ _, Below.refl _ _⟩
  case round =>
    obtain ⟨k, outs, cr, hk, rfl, rfl, hcr, hadd, hown, hbel⟩ := hrel
    have ha1 := ha.below hbel (Nat.le_refl _)
    have hb1 := hb.below hbel (Nat.le_refl _)
    have hd1 := at0_lt ha.ok k
    have hd2 := at0_lt hb.ok k
    have hol : outs.length ≤ 1000000 := by have := hadd.2.1; omega
    have HA := Lib.hid hadd
    clear hadd
    by_cases hlt : k < xs.length
    · go_wp2_with (first
        | (go_at_call 69; refine (digit_any _ _ _ _ _ (by first | exact ha1 | exact hb1) (by omega)).mono ?_; rintro e w' ⟨rfl, rfl⟩)
        | (at_builtin; refine wp_app1 _ _ wr w.heap.size _ outs ((4294967296 + at0 xs k - at0 ys k - cr) % 4294967296) (by omega) hown hbel.size hol rfl rfl rfl rfl ?_; intro v' w' hown' _ hbel'))
      go_roundw
      case rel => exact ⟨k + 1, _, 1 - (4294967296 + at0 xs k - at0 ys k - cr) / 4294967296, by omega, by go_num, by go_num, by omega, HA.out.step (by omega) (by omega), hown', hbel.trans hbel'⟩
      case measure => simp [intOf]; omega
    · go_wp2_with fail
      obtain ⟨A', c', rfl, hr⟩ := hown.rd HA.out.1
      refine (rtrim_any A' c' outs wr hr hol).mono ?_
      rintro e w' ⟨v, rfl, h2, h3⟩
      go_wp2
      go_ret
      have hv := HA.out.done (by omega) (by omega) hle
      rw [hv] at h2
      obtain ⟨A2, c2, rfl, hr2⟩ := h2.rd (dig_ok _)
      exact ⟨⟨A2, c2, rfl, hr2⟩, hbel.trans (h3.mono hbel.size)⟩

end Go.Proofs.Ytlmgdhdakeekkaa

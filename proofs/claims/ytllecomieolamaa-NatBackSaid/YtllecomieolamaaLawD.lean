/-
  Contracts of Uint of both; the walk of the law NatMakes.
-/
import Derived.Test.YtllecomieolamaaLawC
import Derived.OpenShut
namespace Go.Proofs.Ytllecomieolamaa
open Go.RowKit Num

def uintR (xs : List Nat) : Nat × Int := if rightB xs then (if xs.length ≤ 2 then (val xs, 0) else (0, 4)) else (0, 2)
/-- A number of 64 bits, and what is wrong. -/
def RetUE (e : Ending) (r : Nat × Int) : Prop := e = .returned (.tuple #[.int .u64 r.1, .int .i64 r.2])

theorem or_high (x y : Int) (hx : 0 ≤ x) (hx' : x < 4294967296) (hy : 0 ≤ y) (hy' : y < 4294967296) : bits .or .u64 y (x * 4294967296) = y + x * 4294967296 := by
  rw [u64_or _ _ hy (by omega) (by omega) (by omega)]
  have h := or_join x y hx hx' hy hy'
  rw [u64_or _ _ (by omega) (by omega) hy (by omega)] at h
  rw [Nat.or_comm, h]
  omega
theorem or_zero (x : Int) (hx : 0 ≤ x) (hx' : x < 4294967296) : bits .or .u64 0 x = x := by
  rw [u64_or _ _ (by decide) (by decide) hx (by omega)]
  simp
  omega

set_option maxRecDepth 100000 in
set_option maxHeartbeats 1000000 in
theorem uint_any (A : Option Addr) (c : Nat) (xs : List Nat) (w : World) (ha : Rd w A c xs) (hs : xs.length ≤ 1000000) :
    Calls Try.prog 38 #[.slice A xs.length c] w fun e w' => RetUE e (uintR xs) ∧ Read w w' := by
  by_cases h1 : rightB xs = true
  case neg =>
    have h1' : rightB xs = false := by simpa using h1
    have HE : Hid (uintR xs = (0, 2)) := by unfold Hid uintR; rw [h1']; rfl
    clear h1
    go_enter Try.func38, Try.ntmps38
    go_wp2_with fail
    refine (right_any A c xs w ha).mono ?_
    rintro e w2 ⟨rfl, rfl⟩
    rw [h1']
    go_wp2
    go_ret2
    rw [HE.out]
    exact ⟨rfl, Read.refl _⟩
  by_cases h2 : xs.length ≤ 2
  case neg =>
    have HE : Hid (uintR xs = (0, 4)) := by unfold Hid uintR; rw [if_pos h1, if_neg h2]
    go_enter Try.func38, Try.ntmps38
    go_wp2_with fail
    refine (right_any A c xs w ha).mono ?_
    rintro e w2 ⟨rfl, rfl⟩
    rw [h1]
    go_wp2
    go_ret2
    rw [HE.out]
    exact ⟨rfl, Read.refl _⟩
  have HE : Hid (uintR xs = (val xs, 0)) := by unfold Hid uintR; rw [if_pos h1, if_pos h2]
  go_enter Try.func38, Try.ntmps38
  go_wp2_with fail
  refine (right_any A c xs w ha).mono ?_
  rintro e w2 ⟨rfl, rfl⟩
  rw [h1]
  go_wp2
  go_loop [4, 17] (fun uv iv => ∃ k u : Nat, k ≤ xs.length ∧ iv = .int .i64 k ∧ uv = .int .u64 u ∧ Hid (u = val (xs.take k)) ∧ (k ≤ 1 → u < 4294967296) ∧ (k = 0 → u = 0)) (fun _ iv => xs.length - (intOf iv).toNat)
  case atStart => exact ⟨0, 0, by omega, rfl, rfl, rfl, fun _ => by decide, fun _ => rfl⟩
  case round =>
    obtain ⟨k, u, hk, rfl, rfl, HU, hu1, hu0⟩ := hrel
    by_cases hlt : k < xs.length
    · obtain ⟨b1, o1, rfl, hb1, hc1⟩ := ha.at_ (by rintro rfl; simp at hlt)
      have g1 := hc1 k hlt
      have hd1 := ha.ok.get hlt
      have hv := val_take_succ xs k hlt
      clear hc1
      generalize xs[k] = di at *
      have hw1 := hu1 (by omega)
      rcases (by omega : k = 0 ∨ k = 1) with rfl | rfl
      · have hz := hu0 rfl
        subst hz
        have ho := or_zero (di : Int) (by omega) (by omega)
        have HV : Hid (di = val (xs.take 1)) := by
          unfold Hid
          rw [hv, List.take_zero]
          simp [val]
        rw [Nat.add_zero] at g1
        clear hv hu1 hu0 hw1
        go_wp2
        go_round
        case rel => exact ⟨1, di, by omega, rfl, by first | rfl | go_num | (rw [ho]), HV, fun _ => hd1, fun h => by omega⟩
        case measure => simp [intOf]; omega
      · have ho := or_high (di : Int) (u : Int) (by omega) (by omega) (by omega) (by omega)
        have HV : Hid (u + di * 4294967296 = val (xs.take 2)) := by
          unfold Hid
          rw [hv, ← HU.out, Nat.pow_one, Nat.mul_comm]
        clear hv hu1 hu0
        go_wp2
        go_round
        case rel => exact ⟨2, u + di * 4294967296, by omega, rfl, by first | rfl | go_num | (rw [ho]; go_num), HV, fun h => by omega, fun h => by omega⟩
        case measure => simp [intOf]; omega
    · have hkl : k = xs.length := by omega
      subst hkl
      have HV : Hid (u = val xs) := by have := HU.out; rwa [List.take_length] at this
      go_wp2
      go_ret2
      rw [HE.out, ← HV.out]
      exact ⟨rfl, Read.refl _⟩

set_option maxRecDepth 100000 in
set_option maxHeartbeats 1000000 in
theorem ruint_any (A : Option Addr) (c : Nat) (xs : List Nat) (w : World) (ha : Rd w A c xs) (hs : xs.length ≤ 1000000) :
    Calls Try.prog 39 #[.slice A xs.length c] w fun e w' => RetUE e (uintR xs) ∧ Read w w' := by
  by_cases h1 : rightB xs = true
  case neg =>
    have h1' : rightB xs = false := by simpa using h1
    have HE : Hid (uintR xs = (0, 2)) := by unfold Hid uintR; rw [h1']; rfl
    clear h1
    go_enter Try.func39, Try.ntmps39
    go_wp2_with fail
    refine (rright_any A c xs w ha).mono ?_
    rintro e w2 ⟨rfl, rfl⟩
    rw [h1']
    go_wp2
    go_ret2
    rw [HE.out]
    exact ⟨rfl, Read.refl _⟩
  by_cases h2 : xs.length ≤ 2
  case neg =>
    have HE : Hid (uintR xs = (0, 4)) := by unfold Hid uintR; rw [if_pos h1, if_neg h2]
    go_enter Try.func39, Try.ntmps39
    go_wp2_with fail
    refine (rright_any A c xs w ha).mono ?_
    rintro e w2 ⟨rfl, rfl⟩
    rw [h1]
    go_wp2
    go_ret2
    rw [HE.out]
    exact ⟨rfl, Read.refl _⟩
  have HE : Hid (uintR xs = (val xs, 0)) := by unfold Hid uintR; rw [if_pos h1, if_pos h2]
  go_enter Try.func39, Try.ntmps39
  go_wp2_with fail
  refine (rright_any A c xs w ha).mono ?_
  rintro e w2 ⟨rfl, rfl⟩
  rw [h1]
  go_wp2
  go_loop [4, 5] (fun uv iv => ∃ k u : Nat, k ≤ xs.length ∧ iv = .int .i64 ((k : Int) - 1) ∧ uv = .int .u64 u ∧ Hid (u = val (xs.drop k)) ∧ (1 ≤ k → u < 4294967296) ∧ Hid (k = xs.length → u = 0)) (fun _ iv => (intOf iv + 1).toNat)
  case atStart => exact ⟨xs.length, 0, by omega, rfl, rfl, by unfold Hid; rw [List.drop_length]; rfl, fun _ => by decide, fun _ => rfl⟩
  case round =>
    obtain ⟨k, u, hk, rfl, rfl, HU, hu1, hu0⟩ := hrel
    cases k with
    | succ k =>
      have hlt : k < xs.length := hk
      obtain ⟨b1, o1, rfl, hb1, hc1⟩ := ha.at_ (by rintro rfl; simp at hlt)
      have g1 := hc1 k hlt
      have hd1 := ha.ok.get hlt
      have hv := val_drop xs k hlt
      clear hc1
      generalize xs[k] = di at *
      have hw1 := hu1 (by omega)
      have HV : Hid (u * 4294967296 + di = val (xs.drop k)) := by
        unfold Hid
        rw [hv, ← HU.out, Nat.mul_comm, Nat.add_comm]
      have HB : Hid (1 ≤ k → u * 4294967296 + di < 4294967296) := by
        intro h
        have := hu0.out (by omega)
        omega
      clear hv hu1
      go_wp2
      go_round
      case rel => exact ⟨k, u * 4294967296 + di, by omega, by go_num, by go_num, HV, HB.out, fun h => by omega⟩
      case measure => simp [intOf]
    | zero =>
      have HV : Hid (u = val xs) := by have := HU.out; rwa [List.drop_zero] at this
      go_wp2
      go_ret2
      rw [HE.out, ← HV.out]
      exact ⟨rfl, Read.refl _⟩

set_option maxRecDepth 100000 in
set_option maxHeartbeats 1000000 in
theorem natMakes_use (w : World) (A : Option Addr) (c : Nat) (xs : List Nat) (ha : Rd w A c xs) (B : Option Addr) (d : Nat) (ys : List Nat) (hb : Rd w B d ys) (u : Int) (hu : (Lit.int .u64 u).wf = true) :
    Calls Try.prog 7 #[.slice A xs.length c, .slice B ys.length d, .int .u64 u] w fun e w' => e = .returned (.bool true) ∧ Below w.heap.size w w' := by
  have hl1 := ha.len
  have hl2 := hb.len
  by_cases hf : xs.length ≤ 40 ∧ ys.length ≤ 40
  case neg =>
    have HF : Hid (decide (xs.length ≤ 40 ∧ ys.length ≤ 40) = false) := decide_eq_false hf
    clear hf
    go_enter Try.func7, Try.ntmps7
    go_wp2_with fail
    refine (alive_any w).mono ?_
    rintro e w1 ⟨rfl, hb1⟩
    go_wp2_with fail
    refine (few_any A B c d xs.length ys.length w1 hl1 hl2).mono ?_
    rintro e w2 ⟨rfl, rfl⟩
    rw [HF.out]
    go_wp2
    go_ret
    exact ⟨rfl, hb1⟩
  have HF : Hid (decide (xs.length ≤ 40 ∧ ys.length ≤ 40) = true) := decide_eq_true hf
  obtain ⟨hf1, hf2⟩ := hf
  obtain ⟨U, rfl, hU⟩ : ∃ U : Nat, u = (U : Int) ∧ U < 18446744073709551616 := by
    have := bounds_u64 hu
    exact ⟨u.toNat, by omega, by omega⟩
  have hUl : (dig U).length ≤ 2 := dig_length_le (by omega)
  clear hu
  go_enter Try.func7, Try.ntmps7
  go_wp2_with fail
  refine (alive_any w).mono ?_
  rintro e w1 ⟨rfl, hb1⟩
  have ha1 := ha.below hb1 (Nat.le_refl _)
  have hb1' := hb.below hb1 (Nat.le_refl _)
  go_wp2_with fail
  refine (few_any A B c d xs.length ys.length w1 hl1 hl2).mono ?_
  rintro e w2 ⟨rfl, rfl⟩
  rw [HF.out]
  go_wp2_with fail
  refine (uint_any A c xs w1 ha1 (by omega)).mono ?_
  rintro e w2 ⟨rfl, n2, rfl⟩
  go_wp2_with fail
  refine (ruint_any A c xs _ (ha1.drewN n2) (by omega)).mono ?_
  rintro e w3 ⟨rfl, n3, rfl⟩
  generalize uintR xs = r at *
  go_wp2_with fail
  refine (cmp_any A B c d xs ys _ (ha1.drewN (n2 + n3)) (hb1'.drewN (n2 + n3))).mono ?_
  rintro e w4 ⟨rfl, n4, rfl⟩
  go_wp2_with fail
  refine (rcmp_any A B c d xs ys _ (ha1.drewN (n2 + n3 + n4)) (hb1'.drewN (n2 + n3 + n4))).mono ?_
  rintro e w5 ⟨rfl, n5, rfl⟩
  generalize cmpR xs ys = t at *
  go_wp2_with fail
  refine (right_any A c xs _ (ha1.drewN (n2 + n3 + n4 + n5))).mono ?_
  rintro e w6 ⟨rfl, rfl⟩
  go_wp2_with fail
  refine (rright_any A c xs _ (ha1.drewN (n2 + n3 + n4 + n5))).mono ?_
  rintro e w6 ⟨rfl, rfl⟩
  generalize rightB xs = q at *
  go_wp2_with fail
  refine (of_any U _ hU).mono ?_
  rintro e w7 ⟨⟨A7, c7, rfl, r7⟩, b7⟩
  go_wp2_with fail
  refine (rof_any U _ hU).mono ?_
  rintro e w8 ⟨⟨A8, c8, rfl, r8⟩, b8⟩
  have r7' := r7.below b8 (Nat.le_refl _)
  have hbel : Below w.heap.size w w8 := (hb1.trans ((Read.refl w1).drewN (n2 + n3 + n4 + n5) |>.below _)).trans ((b7.mono hb1.size).trans (b8.mono (Nat.le_trans hb1.size b7.size)))
  go_wp2_with fail
  refine (same_any A7 A8 c7 c8 _ _ w8 r7' r8 (by omega) (by omega)).mono ?_
  rintro e w9 ⟨rfl, n9, rfl⟩
  go_wp2
  go_ret
  exact ⟨rfl, hbel.trans ((Read.refl w8).drewN _ |>.below _)⟩

end Go.Proofs.Ytllecomieolamaa

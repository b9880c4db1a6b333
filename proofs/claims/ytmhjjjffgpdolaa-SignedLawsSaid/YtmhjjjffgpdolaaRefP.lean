/-
  Contract of touchstoneref02.Parse.
-/
import Derived.Test.YtmhjjjffgpdolaaRefT
set_option linter.unusedSimpArgs false
set_option linter.unusedVariables false
namespace Go.Proofs.Ytmhjjjffgpdolaa
open Go.RowKit Num

theorem numOf_lt (l : List UInt8) (k : Nat) : numOf (l.take k) < 4294967296 ^ k := by
  induction k with
  | zero => simp [numOf]
  | succ k ih =>
    have hp : 4294967296 ^ (k + 1) = 4294967296 * 4294967296 ^ k := by rw [Nat.pow_succ, Nat.mul_comm]
    by_cases hk : k < l.length
    · have h1 : l[k]? = some l[k] := List.getElem?_eq_getElem hk
      have := l[k].toNat_lt
      rw [numOf_take h1, hp]
      omega
    · have e : l.take (k + 1) = l.take k := by rw [List.take_of_length_le (by omega), List.take_of_length_le (by omega)]
      rw [e, hp]
      omega
theorem scaled_ten {A : Option Addr} {c n : Nat} {w : World} (ha : Rd w A c (dig n)) (hs : (dig n).length ≤ 100000) :
    Calls Try.prog 84 #[.slice A (dig n).length c, .int .u64 10, .int .i64 0] w fun e w' => RetS w w' e (dig (n * 10)) := by
  have h := scaled_any A c (dig n) 10 0 w ha hs (by decide) (by decide)
  rw [val_dig, Nat.pow_zero, Nat.mul_one] at h
  exact h
theorem plus_dd {A B : Option Addr} {c d x y : Nat} {w : World} (ha : Rd w A c (dig x)) (hb : Rd w B d (dig y)) (hs : (dig x).length ≤ 10000) (ht : (dig y).length ≤ 10000) :
    Calls Try.prog 51 #[.slice A (dig x).length c, .slice B (dig y).length d] w fun e w' => RetS w w' e (dig (x + y)) := plus_eq rfl rfl ha hb hs ht

set_option maxRecDepth 100000 in
set_option maxHeartbeats 600000 in
theorem rparse_any (s : ByteArray) (w : World) (hs : s.size ≤ 1000000) : Calls Try.prog 68 #[.string s] w fun e w' => RetSE w w' e (parseR s.data.toList) := by
  by_cases h0 : s.toList = []
  · have HE : Hid (parseR s.data.toList = ([], 5)) := by
      unfold Hid
      rw [← Lib.toList_data, h0]
      exact parseR_form formB_empty
    go_enter Try.func68, Try.ntmps68
    go_wp2
    go_ret2
    rw [HE.out]
    exact ⟨⟨none, 0, rfl, Rd.nil⟩, Below.refl _ _⟩
  · have h0' : s.toList.isEmpty = false := by
      cases h : s.toList with
      | nil => exact absurd h h0
      | cons a l => rfl
    have hne : s.data.toList ≠ [] := by rw [← Lib.toList_data]; exact h0
    by_cases h1 : 1 < s.size
    · have hb0 := byte_at s 0 (by omega)
      have hhd : s.data.toList.head? = some s[0] := by rw [← hb0, List.head?_eq_getElem?]
      by_cases hz : s[0] = 48
      · have hz' : ((s[0].toNat : Int) == 48) = true := by rw [hz]; rfl
        have HE := Lib.hid (parseR_form (formB_zero (by rw [← Lib.size_eq]; exact h1) (by rw [hhd, hz])))
        clear hb0 hhd hz
        go_enter Try.func68, Try.ntmps68
        go_wp2
        go_ret2
        rw [HE.out]
        exact ⟨⟨none, 0, rfl, Rd.nil⟩, Below.refl _ _⟩
      · have hz' : ((s[0].toNat : Int) == 48) = false := by
          apply beq_eq_false_iff_ne.2
          intro e
          apply hz
          apply UInt8.toNat_inj.1
          show s[0].toNat = 48
          omega
        have hzero : ¬ (1 < s.data.toList.length ∧ s.data.toList.head? = some 48) := fun h => hz (by rw [hhd] at h; exact Option.some.inj h.2)
        clear hb0 hhd hz
        go_enter Try.func68, Try.ntmps68
        go_wp2
        go_loop [4] (fun iv => ∃ k : Nat, k ≤ s.size ∧ iv = .int .i64 k ∧ Hid (∀ c ∈ s.data.toList.take k, isD c = true)) (fun iv => s.size - (intOf iv).toNat)
        case atStart => exact ⟨0, by omega, rfl, fun c hc => by simp at hc⟩
        case round =>
          obtain ⟨k, hk, rfl, hdig⟩ := hrel
          by_cases hlt : k < s.size
          · have hb := Lib.hid (byte_at s k hlt)
            by_cases hlo : s[k].toNat < 48
            · have HE := Lib.hid (parseR_form (formB_bad hb.out (by omega)))
              go_wp2
              go_ret2
              rw [HE.out]
              exact ⟨⟨none, 0, rfl, Rd.nil⟩, Below.refl _ _⟩
            · by_cases hhi : 57 < s[k].toNat
              · have HE := Lib.hid (parseR_form (formB_bad hb.out (by omega)))
                go_wp2
                go_ret2
                rw [HE.out]
                exact ⟨⟨none, 0, rfl, Rd.nil⟩, Below.refl _ _⟩
              · have HN := Lib.hid (digits_take hb.out (by omega) hdig.out)
                go_wp2
                go_round
                case rel => exact ⟨k + 1, by omega, by go_num, HN⟩
                case measure => simp [intOf]; omega
          · have hall : ∀ c ∈ s.data.toList, isD c = true := by
              have := hdig.out
              rwa [List.take_of_length_le (by rw [← Lib.size_eq]; omega)] at this
            have hF := formB_good hne hzero hall
            clear hdig
            by_cases hlong : s.size ≤ 2000
            · have HE := Lib.hid (parseR_ok hF (by rw [← Lib.size_eq]; exact hlong))
              have HA := Lib.hid hall
              have hks : k = s.size := by omega
              subst hks
              clear hF hall hlt hk
              go_wp2
              go_loopw [5, 6] (fun a iv wr => ∃ (i : Nat) (A1 : Option Addr) (c1 : Nat), i ≤ s.size ∧ iv = .int .i64 i ∧ a = .slice A1 (dig (numOf (s.data.toList.take i))).length c1 ∧ Rd wr A1 c1 (dig (numOf (s.data.toList.take i))) ∧ Below w.heap.size w wr) (fun _ iv _ => s.size - (intOf iv).toNat)
              case atStart => exact ⟨0, none, 0, Nat.zero_le _, rfl, rfl, Rd.nil, Below.refl _ _⟩
              case round =>
                obtain ⟨i, A1, c1, hi, rfl, rfl, hr, hbel⟩ := hrel
                have hdl : (dig (numOf (s.data.toList.take i))).length ≤ i := dig_length_le (numOf_lt _ _)
                by_cases hlt : i < s.size
                · have hb := byte_at s i hlt
                  have hdg := isD_iff (HA.out s[i] (List.mem_of_getElem? hb))
                  obtain ⟨g1, g2⟩ := hdg
                  have HN := Lib.hid (numOf_take hb)
                  clear hb
                  have HU : Hid (IntKind.u64.wrap ((s[i].toNat : Int) - 48) = ((s[i].toNat - 48 : Nat) : Int)) := by unfold Hid; rw [u64w]; have := s[i].toNat_lt; omega
                  have HB : Hid (s[i].toNat - 48 < 18446744073709551616) := by unfold Hid; omega
                  have HL : Hid ((dig (s[i].toNat - 48)).length ≤ 10000) := Nat.le_trans (dig_length_le (k := 1) (show s[i].toNat - 48 < 4294967296 ^ 1 by have := s[i].toNat_lt; omega)) (by decide)
                  have HT : Hid ((dig (numOf (s.data.toList.take i) * 10)).length ≤ 10000) := Nat.le_trans (dig_length_le (k := i + 1) (by have := numOf_lt s.data.toList i; rw [Nat.pow_succ]; omega)) (by omega)
                  have HS1 : Hid ((dig (numOf (s.data.toList.take i))).length ≤ 100000) := by unfold Hid; omega
                  have hw : IntKind.u8.wrap ((s[i].toNat : Int) - 48) = (s[i].toNat : Int) - 48 := by simp [IntKind.wrap, IntKind.bits, IntKind.signed]; omega
                  have hi0 : (0 : Int) ≤ (i : Int) := by omega
                  have hi1 : (i : Int) < (s.size : Int) := by omega
                  go_wp2_with fail
                  have hr' := hr.drew
                  have hbel' := hbel.trans ((Read.refl wr).drew.below _)
                  go_region_held3 (fun w' => w'.os = w'.os) (first | rfl | go_keep)
                    (first | (go_at_call 84; (with_reducible refine (scaled_ten hr' HS1.out).mono ?_); rintro e w2 ⟨⟨A2, c2, rfl, hr2⟩, hb2⟩) | (go_at_call 61; go_loud (with_reducible refine (rof_use HU.out HB.out).mono ?_); rintro e w3 ⟨⟨A3, c3, rfl, hr3⟩, hb3⟩) | (go_at_call 51; (with_reducible refine (plus_dd (hr2.below hb3 (Nat.le_refl _)) hr3 HT.out HL.out).mono ?_); rintro e w4 ⟨⟨A4, c4, rfl, hr4⟩, hb4⟩))
                  all_goals
                    go_wp2
                    refine ⟨⟨i + 1, A4, c4, by omega, by go_num, ?_, ?_, below_trans (below_trans (below_trans hbel' hb2) hb3) hb4⟩, ?_⟩
                    · rw [HN.out, Nat.mul_comm 10]
                    · rw [HN.out, Nat.mul_comm 10]; exact hr4
                    · simp [intOf]; omega
                · have hks : i = s.size := by omega
                  subst hks
                  rw [List.take_of_length_le (by rw [← Lib.size_eq]; exact Nat.le_refl _)] at hr hdl ⊢
                  go_wp2_with fail
                  refine (rfit_any A1 c1 _ _ hr (by omega)).mono ?_
                  rintro e w3 ⟨⟨A3, c3, rfl, hr3⟩, hb3⟩
                  go_wp2
                  go_ret2
                  rw [HE.out]
                  exact ⟨⟨A3, c3, rfl, hr3⟩, below_trans hbel hb3⟩
            · have HE := Lib.hid (parseR_long hF (by rw [← Lib.size_eq]; exact hlong))
              clear hF hall
              first
                | (exfalso; omega)
                | (go_wp2
                   go_ret2
                   rw [HE.out]
                   exact ⟨⟨none, 0, rfl, Rd.nil⟩, Below.refl _ _⟩)
    · have hzero : ¬ (1 < s.data.toList.length ∧ s.data.toList.head? = some 48) := fun h => h1 (by rw [Lib.size_eq]; exact h.1)
      go_enter Try.func68, Try.ntmps68
      go_wp2
      go_loop [4] (fun iv => ∃ k : Nat, k ≤ s.size ∧ iv = .int .i64 k ∧ Hid (∀ c ∈ s.data.toList.take k, isD c = true)) (fun iv => s.size - (intOf iv).toNat)
      case atStart => exact ⟨0, by omega, rfl, fun c hc => by simp at hc⟩
      case round =>
        obtain ⟨k, hk, rfl, hdig⟩ := hrel
        by_cases hlt : k < s.size
        · have hb := Lib.hid (byte_at s k hlt)
          by_cases hlo : s[k].toNat < 48
          · have HE := Lib.hid (parseR_form (formB_bad hb.out (by omega)))
            go_wp2
            go_ret2
            rw [HE.out]
            exact ⟨⟨none, 0, rfl, Rd.nil⟩, Below.refl _ _⟩
          · by_cases hhi : 57 < s[k].toNat
            · have HE := Lib.hid (parseR_form (formB_bad hb.out (by omega)))
              go_wp2
              go_ret2
              rw [HE.out]
              exact ⟨⟨none, 0, rfl, Rd.nil⟩, Below.refl _ _⟩
            · have HN := Lib.hid (digits_take hb.out (by omega) hdig.out)
              go_wp2
              go_round
              case rel => exact ⟨k + 1, by omega, by go_num, HN⟩
              case measure => simp [intOf]; omega
        · have hall : ∀ c ∈ s.data.toList, isD c = true := by
            have := hdig.out
            rwa [List.take_of_length_le (by rw [← Lib.size_eq]; omega)] at this
          have hF := formB_good hne hzero hall
          clear hdig
          by_cases hlong : s.size ≤ 2000
          · have HE := Lib.hid (parseR_ok hF (by rw [← Lib.size_eq]; exact hlong))
            have HA := Lib.hid hall
            have hks : k = s.size := by omega
            subst hks
            clear hF hall hlt hk
            go_wp2
            go_loopw [5, 6] (fun a iv wr => ∃ (i : Nat) (A1 : Option Addr) (c1 : Nat), i ≤ s.size ∧ iv = .int .i64 i ∧ a = .slice A1 (dig (numOf (s.data.toList.take i))).length c1 ∧ Rd wr A1 c1 (dig (numOf (s.data.toList.take i))) ∧ Below w.heap.size w wr) (fun _ iv _ => s.size - (intOf iv).toNat)
            case atStart => exact ⟨0, none, 0, Nat.zero_le _, rfl, rfl, Rd.nil, Below.refl _ _⟩
            case round =>
              obtain ⟨i, A1, c1, hi, rfl, rfl, hr, hbel⟩ := hrel
              have hdl : (dig (numOf (s.data.toList.take i))).length ≤ i := dig_length_le (numOf_lt _ _)
              by_cases hlt : i < s.size
              · have hb := byte_at s i hlt
                have hdg := isD_iff (HA.out s[i] (List.mem_of_getElem? hb))
                obtain ⟨g1, g2⟩ := hdg
                have HN := Lib.hid (numOf_take hb)
                clear hb
                have HU : Hid (IntKind.u64.wrap ((s[i].toNat : Int) - 48) = ((s[i].toNat - 48 : Nat) : Int)) := by unfold Hid; rw [u64w]; have := s[i].toNat_lt; omega
                have HB : Hid (s[i].toNat - 48 < 18446744073709551616) := by unfold Hid; omega
                have HL : Hid ((dig (s[i].toNat - 48)).length ≤ 10000) := Nat.le_trans (dig_length_le (k := 1) (show s[i].toNat - 48 < 4294967296 ^ 1 by have := s[i].toNat_lt; omega)) (by decide)
                have HT : Hid ((dig (numOf (s.data.toList.take i) * 10)).length ≤ 10000) := Nat.le_trans (dig_length_le (k := i + 1) (by have := numOf_lt s.data.toList i; rw [Nat.pow_succ]; omega)) (by omega)
                have HS1 : Hid ((dig (numOf (s.data.toList.take i))).length ≤ 100000) := by unfold Hid; omega
                have hw : IntKind.u8.wrap ((s[i].toNat : Int) - 48) = (s[i].toNat : Int) - 48 := by simp [IntKind.wrap, IntKind.bits, IntKind.signed]; omega
                have hi0 : (0 : Int) ≤ (i : Int) := by omega
                have hi1 : (i : Int) < (s.size : Int) := by omega
                go_wp2_with fail
                have hr' := hr.drew
                have hbel' := hbel.trans ((Read.refl wr).drew.below _)
                go_region_held3 (fun w' => w'.os = w'.os) (first | rfl | go_keep)
                  (first | (go_at_call 84; (with_reducible refine (scaled_ten hr' HS1.out).mono ?_); rintro e w2 ⟨⟨A2, c2, rfl, hr2⟩, hb2⟩) | (go_at_call 61; go_loud (with_reducible refine (rof_use HU.out HB.out).mono ?_); rintro e w3 ⟨⟨A3, c3, rfl, hr3⟩, hb3⟩) | (go_at_call 51; (with_reducible refine (plus_dd (hr2.below hb3 (Nat.le_refl _)) hr3 HT.out HL.out).mono ?_); rintro e w4 ⟨⟨A4, c4, rfl, hr4⟩, hb4⟩))
                all_goals
                  go_wp2
                  refine ⟨⟨i + 1, A4, c4, by omega, by go_num, ?_, ?_, below_trans (below_trans (below_trans hbel' hb2) hb3) hb4⟩, ?_⟩
                  · rw [HN.out, Nat.mul_comm 10]
                  · rw [HN.out, Nat.mul_comm 10]; exact hr4
                  · simp [intOf]; omega
              · have hks : i = s.size := by omega
                subst hks
                rw [List.take_of_length_le (by rw [← Lib.size_eq]; exact Nat.le_refl _)] at hr hdl ⊢
                go_wp2_with fail
                refine (rfit_any A1 c1 _ _ hr (by omega)).mono ?_
                rintro e w3 ⟨⟨A3, c3, rfl, hr3⟩, hb3⟩
                go_wp2
                go_ret2
                rw [HE.out]
                exact ⟨⟨A3, c3, rfl, hr3⟩, below_trans hbel hb3⟩
          · have HE := Lib.hid (parseR_long hF (by rw [← Lib.size_eq]; exact hlong))
            clear hF hall
            first
              | (exfalso; omega)
              | (go_wp2
                 go_ret2
                 rw [HE.out]
                 exact ⟨⟨none, 0, rfl, Rd.nil⟩, Below.refl _ _⟩)

end Go.Proofs.Ytmhjjjffgpdolaa

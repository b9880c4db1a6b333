/-
  Contracts of the document's reader of tokens: letter, digit, digits, blank, word.
-/
import Derived.Test.YtjjdpbfbpaobhaaDoorTf
set_option linter.unusedSimpArgs false
set_option linter.unusedVariables false
namespace Go.Proofs.YtjjdpbfbpaobhaaDoor
open Go.RowKit

set_option maxRecDepth 100000 in
theorem rletter_any (c : UInt8) (w : World) : Calls Tryd.prog 34 #[.int .u8 c.toNat] w fun e w' => e = .returned (.bool (isLetter c)) ∧ w' = w := by
  have hlt := UInt8.toNat_lt c
  have hI : isLetter c = decide (c.toNat = 95 ∨ (97 ≤ c.toNat ∧ c.toNat ≤ 122) ∨ (65 ≤ c.toNat ∧ c.toNat ≤ 90)) := by
    rw [Bool.eq_iff_iff, (class_eq rfl).1, decide_eq_true_iff]
  rw [hI]
  generalize c.toNat = n at *
  clear hI
  go_enter Tryd.func34, Tryd.ntmps34
  go_wp2
  all_goals
    go_ret
    exact ⟨congrArg (fun b => Ending.returned (.bool b)) (by rw [Bool.eq_iff_iff]; simp <;> omega), rfl⟩
set_option maxRecDepth 100000 in
theorem rdigit_any (c : UInt8) (w : World) : Calls Tryd.prog 35 #[.int .u8 c.toNat] w fun e w' => e = .returned (.bool (isDigit c)) ∧ w' = w := by
  have hlt := UInt8.toNat_lt c
  have hI : isDigit c = decide (48 ≤ c.toNat ∧ c.toNat ≤ 57) := by
    rw [Bool.eq_iff_iff, (class_eq rfl).2, decide_eq_true_iff]
  rw [hI]
  generalize c.toNat = n at *
  clear hI
  go_enter Tryd.func35, Tryd.ntmps35
  go_wp2
  all_goals
    go_ret
    exact ⟨congrArg (fun b => Ending.returned (.bool b)) (by rw [Bool.eq_iff_iff]; simp <;> omega), rfl⟩
set_option maxRecDepth 100000 in
set_option maxHeartbeats 1000000 in
theorem rdigits_any {s : ByteArray} {i : Nat} (w : World) (hs : s.size ≤ 8192) (hi : i ≤ s.size) : Calls Tryd.prog 36 #[.string s, .int .i64 i] w fun e w' => e = .returned (.int .i64 (tw isDigit s i : Nat)) ∧ Read w w' := by
  have hn := tw_le (p := isDigit) hi
  generalize hN : tw isDigit s i = N at *
  have HN := Lib.hid hN
  clear hN
  go_enter Tryd.func36, Tryd.ntmps36
  go_wp2
  go_loopg [5] (s.size - i) (fun k v wr => ∃ j, k = s.size - (i + j) ∧ i + j ≤ s.size ∧ v = .int .i64 (j : Nat) ∧ Hid (j + tw isDigit s (i + j) = N) ∧ Read w wr)
  case atStart => exact ⟨0, rfl, hi, rfl, by show 0 + tw isDigit s (i + 0) = N; rw [Nat.zero_add, Nat.add_zero]; exact HN.out, (by first | exact Read.refl _ | exact ⟨_, rfl⟩ | exact Read.drewN ⟨_, rfl⟩ _ | exact Read.drewN (Read.drewN ⟨_, rfl⟩ _) _ | exact Read.drewN (Read.refl _) _)⟩
  case round =>
    obtain ⟨j, hk, hj, rfl, hT, hq⟩ := hrel
    by_cases hlt : i + j < s.size
    · have d1 : decide ((i : Int) + (j : Int) < (s.size : Int)) = true := decide_eq_true (by omega)
      rcases Bool.eq_false_or_eq_true (isDigit s[i + j]) with hp | hp
      · have h1 : j + 1 + tw isDigit s (i + (j + 1)) = N := by
          have h1 := tw_yes hlt hp
          have h2 := hT.out
          rw [← Nat.add_assoc]
          omega
        have H1 := Lib.hid h1
        have HP := Lib.hid hp
        clear h1 hp hT
        go_wp2_with fail
        refine (rdigit_any _ _).mono ?_
        rintro e w3 ⟨rfl, rfl⟩
        rw [HP.out]
        go_wp2_with fail
        go_roundg (s.size - (i + (j + 1)))
        case measure => omega
        case rel => exact ⟨j + 1, rfl, by omega, by simp, H1, hq.trans (by first | exact Read.refl _ | exact ⟨_, rfl⟩ | exact Read.drewN ⟨_, rfl⟩ _ | exact Read.drewN (Read.drewN ⟨_, rfl⟩ _) _ | exact Read.drewN (Read.refl _) _)⟩
      · have h1 : j = N := by
          have h1 := tw_no hlt hp
          have h2 := hT.out
          omega
        have HP := Lib.hid hp
        clear hp hT
        subst h1
        go_wp2_with fail
        refine (rdigit_any _ _).mono ?_
        rintro e w3 ⟨rfl, rfl⟩
        rw [HP.out]
        go_wp2
        go_ret
        exact ⟨rfl, hq.trans (by first | exact Read.refl _ | exact ⟨_, rfl⟩ | exact Read.drewN ⟨_, rfl⟩ _ | exact Read.drewN (Read.drewN ⟨_, rfl⟩ _) _ | exact Read.drewN (Read.refl _) _)⟩
    · have d1 : decide ((i : Int) + (j : Int) < (s.size : Int)) = false := decide_eq_false (by omega)
      have h1 : j = N := by
        have h1 := tw_end (p := isDigit) hlt
        have h2 := hT.out
        omega
      clear hT
      subst h1
      go_wp2
      go_ret
      exact ⟨rfl, hq.trans (by first | exact Read.refl _ | exact ⟨_, rfl⟩ | exact Read.drewN ⟨_, rfl⟩ _ | exact Read.drewN (Read.drewN ⟨_, rfl⟩ _) _ | exact Read.drewN (Read.refl _) _)⟩
theorem blankL_ws {c : UInt8} {r : List UInt8} (h : isWs c = true) : blankL (c :: r) = blankL r := by
  have e : (c :: r).dropWhile isWs = r.dropWhile isWs := by rw [List.dropWhile_cons, if_pos h]
  by_cases h2 : ∃ q, r.dropWhile isWs = 37 :: q
  · obtain ⟨q, h2⟩ := h2
    rw [blankL_on (e.trans h2), blankL_on h2]
  · have h3 : ∀ q, r.dropWhile isWs ≠ 37 :: q := fun q hq => h2 ⟨q, hq⟩
    rw [blankL_stop (fun q hq => h3 q (e.symm.trans hq)), blankL_stop h3, e]
theorem blankL_no {c : UInt8} {r : List UInt8} (h : isWs c = false) (h2 : c ≠ 37) : blankL (c :: r) = c :: r := by
  have e : (c :: r).dropWhile isWs = c :: r := by rw [List.dropWhile_cons, if_neg (by simp [h])]
  rw [blankL_stop (fun q hq => by rw [e] at hq; injection hq with h3; exact h2 h3), e]
theorem blankL_nil : blankL [] = [] := by rw [blankL_stop (by intro r h; cases h)]; rfl
theorem ws_eq {c : UInt8} {n : Nat} (hn : c.toNat = n) : isWs c = true ↔ n = 32 ∨ n = 9 ∨ n = 13 ∨ n = 10 := by
  subst hn
  have h : ∀ k : UInt8, c = k ↔ c.toNat = k.toNat := fun k => ⟨fun h => by rw [h], fun h => UInt8.toNat_inj.1 h⟩
  unfold isWs
  simp only [Bool.or_eq_true, beq_iff_eq, h, or_assoc]
  rfl
theorem nolf_eq {c : UInt8} {n : Nat} (hn : c.toNat = n) : noLf c = ((n : Int) != 10) := by
  subst hn
  have : ∀ c : UInt8, noLf c = ((c.toNat : Int) != 10) := fun c => by
    have := forall_u8 (p := fun c => noLf c == ((c.toNat : Int) != 10)) (by decide +kernel) c
    simpa using this
  exact this c
set_option maxRecDepth 100000 in
set_option maxHeartbeats 1000000 in
theorem rblank_any {s : ByteArray} {i : Nat} (w : World) (hs : s.size ≤ 8192) (hi : i ≤ s.size) : Calls Tryd.prog 19 #[.string s, .int .i64 i] w fun e w' => e = .returned (.int .i64 ((bl s i : Int) - (i : Int))) ∧ Read w w' ∧ i ≤ bl s i ∧ bl s i ≤ s.size ∧ s.data.toList.drop (bl s i) = blankL (s.data.toList.drop i) := by
  go_enter Tryd.func19, Tryd.ntmps19
  go_wp2
  go_loopg [5] (s.size - i) (fun k v wr => ∃ j, k = s.size - j ∧ i ≤ j ∧ j ≤ s.size ∧ v = .int .i64 (j : Nat) ∧ Hid (blankL (s.data.toList.drop j) = blankL (s.data.toList.drop i)) ∧ Read w wr)
  case atStart => exact ⟨i, rfl, Nat.le_refl _, hi, rfl, rfl, (by first | exact Read.refl _ | exact ⟨_, rfl⟩ | exact Read.drewN ⟨_, rfl⟩ _ | exact Read.drewN (Read.drewN ⟨_, rfl⟩ _) _ | exact Read.drewN (Read.refl _) _)⟩
  case round =>
    obtain ⟨j, hk, hij, hj, rfl, hT, hq⟩ := hrel
    by_cases hlt : j < s.size
    · have d1 : decide ((j : Int) < (s.size : Int)) = true := decide_eq_true (by omega)
      have hd := drop_at hlt
      by_cases h37 : s[j] = 37
      · have b1 : ((s[j].toNat : Int) == 37) = true := by rw [h37]; rfl
        have HD := Lib.hid hd
        have H37 := Lib.hid h37
        clear hd h37
        go_wp2_with fail
        go_loopg [5] (s.size - j) (fun k v wx => ∃ m, k = s.size - m ∧ j ≤ m ∧ m ≤ s.size ∧ v = .int .i64 (m : Nat) ∧ Hid (m + tw noLf s m = j + tw noLf s j) ∧ Read w wx)
        case atStart => exact ⟨j, rfl, Nat.le_refl _, hj, rfl, rfl, hq.trans (by first | exact Read.refl _ | exact ⟨_, rfl⟩ | exact Read.drewN ⟨_, rfl⟩ _ | exact Read.drewN (Read.drewN ⟨_, rfl⟩ _) _ | exact Read.drewN (Read.refl _) _)⟩
        case round =>
          obtain ⟨m, hk2, hjm, hm, rfl, hT2, hq2⟩ := hrel
          clear b1 d1
          by_cases hlt2 : m < s.size
          · have d2 : decide ((m : Int) < (s.size : Int)) = true := decide_eq_true (by omega)
            have hb := nolf_eq (c := s[m]) rfl
            rcases Bool.eq_false_or_eq_true (noLf s[m]) with hp | hp
            · have h1 : m + 1 + tw noLf s (m + 1) = j + tw noLf s j := by
                have h1 := tw_yes hlt2 hp
                have h2 := hT2.out
                omega
              have H1 := Lib.hid h1
              rw [hp] at hb
              replace hb := hb.symm
              clear h1 hp hT2
              go_wp2_with fail
              go_roundg (s.size - (m + 1))
              case measure => omega
              case rel => exact ⟨m + 1, rfl, by omega, by omega, by simp, H1, hq2.trans (by first | exact Read.refl _ | exact ⟨_, rfl⟩ | exact Read.drewN ⟨_, rfl⟩ _ | exact Read.drewN (Read.drewN ⟨_, rfl⟩ _) _ | exact Read.drewN (Read.refl _) _)⟩
            · have h0 := tw_no hlt2 hp
              have h1 : blankL (s.data.toList.drop m) = blankL (s.data.toList.drop i) := by
                have h2 := hT2.out
                rw [h0, Nat.add_zero] at h2
                rw [← hT.out, h2, drop_tw_at]
                have e1 := HD.out
                rw [H37.out] at e1
                rw [e1, blankL_on (l := 37 :: s.data.toList.drop (j + 1)) (r := s.data.toList.drop (j + 1)) rfl]
                rfl
              have hjm2 : j < m := by
                have h2 := hT2.out
                have h3 : tw noLf s j = tw noLf s (j + 1) + 1 := tw_yes hlt (by rw [H37.out]; rfl)
                omega
              have H1 := Lib.hid h1
              rw [hp] at hb
              replace hb := hb.symm
              clear h1 hp hT2 h0
              go_wp2_with fail
              go_roundg (s.size - m)
              case measure => omega
              case rel => exact ⟨m, rfl, by omega, hm, rfl, H1, hq2.trans (by first | exact Read.refl _ | exact ⟨_, rfl⟩ | exact Read.drewN ⟨_, rfl⟩ _ | exact Read.drewN (Read.drewN ⟨_, rfl⟩ _) _ | exact Read.drewN (Read.refl _) _)⟩
          · have d2 : decide ((m : Int) < (s.size : Int)) = false := decide_eq_false (by omega)
            have h0 := tw_end (p := noLf) hlt2
            have h1 : blankL (s.data.toList.drop m) = blankL (s.data.toList.drop i) := by
              have h2 := hT2.out
              rw [h0, Nat.add_zero] at h2
              rw [← hT.out, h2, drop_tw_at]
              have e1 := HD.out
              rw [H37.out] at e1
              rw [e1, blankL_on (l := 37 :: s.data.toList.drop (j + 1)) (r := s.data.toList.drop (j + 1)) rfl]
              rfl
            have H1 := Lib.hid h1
            clear h1 hT2 h0
            go_wp2_with fail
            go_roundg (s.size - m)
            case measure => omega
            case rel => exact ⟨m, rfl, by omega, hm, rfl, H1, hq2.trans (by first | exact Read.refl _ | exact ⟨_, rfl⟩ | exact Read.drewN ⟨_, rfl⟩ _ | exact Read.drewN (Read.drewN ⟨_, rfl⟩ _) _ | exact Read.drewN (Read.refl _) _)⟩
      · have b1 : ((s[j].toNat : Int) == 37) = false := by
          have : s[j].toNat ≠ 37 := fun e => h37 (UInt8.toNat_inj.1 e)
          simp
          omega
        have hw := ws_eq (c := s[j]) rfl
        rcases Bool.eq_false_or_eq_true (isWs s[j]) with hp | hp
        · have h1 : blankL (s.data.toList.drop (j + 1)) = blankL (s.data.toList.drop i) := by rw [← hT.out, hd, blankL_ws hp]
          have H1 := Lib.hid h1
          have hw := hw.1 hp
          clear h1 hp hT hd h37
          rcases hw with e | e | e | e
          · have b32 : ((s[j].toNat : Int) != 32) = false := by rw [e]; rfl
            clear e
            go_wp2_with fail
            go_roundg (s.size - (j + 1))
            case measure => omega
            case rel => exact ⟨j + 1, rfl, by omega, by omega, by simp, H1, hq.trans (by first | exact Read.refl _ | exact ⟨_, rfl⟩ | exact Read.drewN ⟨_, rfl⟩ _ | exact Read.drewN (Read.drewN ⟨_, rfl⟩ _) _ | exact Read.drewN (Read.refl _) _)⟩
          · have b32 : ((s[j].toNat : Int) != 32) = true := by rw [e]; rfl
            have b9 : ((s[j].toNat : Int) != 9) = false := by rw [e]; rfl
            clear e
            go_wp2_with fail
            go_roundg (s.size - (j + 1))
            case measure => omega
            case rel => exact ⟨j + 1, rfl, by omega, by omega, by simp, H1, hq.trans (by first | exact Read.refl _ | exact ⟨_, rfl⟩ | exact Read.drewN ⟨_, rfl⟩ _ | exact Read.drewN (Read.drewN ⟨_, rfl⟩ _) _ | exact Read.drewN (Read.refl _) _)⟩
          · have b32 : ((s[j].toNat : Int) != 32) = true := by rw [e]; rfl
            have b9 : ((s[j].toNat : Int) != 9) = true := by rw [e]; rfl
            have b10 : ((s[j].toNat : Int) != 10) = true := by rw [e]; rfl
            have b13 : ((s[j].toNat : Int) != 13) = false := by rw [e]; rfl
            clear e
            go_wp2_with fail
            go_roundg (s.size - (j + 1))
            case measure => omega
            case rel => exact ⟨j + 1, rfl, by omega, by omega, by simp, H1, hq.trans (by first | exact Read.refl _ | exact ⟨_, rfl⟩ | exact Read.drewN ⟨_, rfl⟩ _ | exact Read.drewN (Read.drewN ⟨_, rfl⟩ _) _ | exact Read.drewN (Read.refl _) _)⟩
          · have b32 : ((s[j].toNat : Int) != 32) = true := by rw [e]; rfl
            have b9 : ((s[j].toNat : Int) != 9) = true := by rw [e]; rfl
            have b10 : ((s[j].toNat : Int) != 10) = false := by rw [e]; rfl
            clear e
            go_wp2_with fail
            go_roundg (s.size - (j + 1))
            case measure => omega
            case rel => exact ⟨j + 1, rfl, by omega, by omega, by simp, H1, hq.trans (by first | exact Read.refl _ | exact ⟨_, rfl⟩ | exact Read.drewN ⟨_, rfl⟩ _ | exact Read.drewN (Read.drewN ⟨_, rfl⟩ _) _ | exact Read.drewN (Read.refl _) _)⟩
        · have hfin : blankL (s.data.toList.drop i) = s.data.toList.drop j := by rw [← hT.out, hd, blankL_no hp h37]
          have HE := Lib.hid (bl_of hj hfin)
          have HF := Lib.hid hfin
          have hn : ¬ (s[j].toNat = 32 ∨ s[j].toNat = 9 ∨ s[j].toNat = 13 ∨ s[j].toNat = 10) := fun e => by
            rw [hw.2 e] at hp
            cases hp
          have b2 : ((s[j].toNat : Int) != 32) = true := by simp; omega
          have b3 : ((s[j].toNat : Int) != 9) = true := by simp; omega
          have b4 : ((s[j].toNat : Int) != 10) = true := by simp; omega
          have b5 : ((s[j].toNat : Int) != 13) = true := by simp; omega
          clear hfin hp hT hd h37 hw hn
          go_wp2
          rw [HE.out, HF.out]
          go_ret
          exact ⟨rfl, hq.trans (by first | exact Read.refl _ | exact ⟨_, rfl⟩ | exact Read.drewN ⟨_, rfl⟩ _ | exact Read.drewN (Read.drewN ⟨_, rfl⟩ _) _ | exact Read.drewN (Read.refl _) _), hij, hj, by first | trivial | rfl⟩
    · have d1 : decide ((j : Int) < (s.size : Int)) = false := decide_eq_false (by omega)
      have hfin : blankL (s.data.toList.drop i) = s.data.toList.drop j := by
        rw [← hT.out, List.drop_eq_nil_of_le (by simp; omega), blankL_nil]
      have HE := Lib.hid (bl_of hj hfin)
      have HF := Lib.hid hfin
      clear hfin hT
      go_wp2
      rw [HE.out, HF.out]
      go_ret
      exact ⟨rfl, hq.trans (by first | exact Read.refl _ | exact ⟨_, rfl⟩ | exact Read.drewN ⟨_, rfl⟩ _ | exact Read.drewN (Read.drewN ⟨_, rfl⟩ _) _ | exact Read.drewN (Read.refl _) _), hij, hj, by first | trivial | rfl⟩
end Go.Proofs.YtjjdpbfbpaobhaaDoor

/-
  Contracts of Mul of both, Of of both.
-/
import Derived.Test.YtlmgdhdakeekkaaNatG
namespace Go.Proofs.Ytlmgdhdakeekkaa
open Go.RowKit Num



/-- The product of two digits, as a number of its own. -/
theorem digits_mul {a b : Nat} (ha : a < 4294967296) (hb : b < 4294967296) : ∃ M : Nat, (a : Int) * (b : Int) = (M : Int) ∧ M = a * b ∧ M ≤ 18446744065119617025 := by
  refine ⟨a * b, (Int.natCast_mul _ _).symm, rfl, ?_⟩
  exact Nat.mul_le_mul (Nat.le_of_lt_succ ha) (Nat.le_of_lt_succ hb)

set_option maxRecDepth 100000 in
set_option maxHeartbeats 1000000 in
theorem mul_any (A B : Option Addr) (c d : Nat) (xs ys : List Nat) (w : World) (ha : Rd w A c xs) (hb : Rd w B d ys) :
   Calls Try.prog 57 #[.slice A xs.length c, .slice B ys.length d] w fun e w' => RetSE w w' e (mulR xs ys) := by
  by_cases h1 : rightB xs = true
  · by_cases h2 : rightB ys = true
    · have hl1 := right_len h1
      have hl2 := right_len h2
      have HE := Lib.hid (mulR_eq h1 h2)
      go_enter Try.func57, Try.ntmps57
      go_wp2_with (first
        | (go_at_call 53; refine (right_any _ _ _ _ (by first | exact ha | exact hb)).mono ?_; rintro e w' ⟨rfl, rfl⟩)
        | (at_make; refine wp_makeN _ _ _ (xs.length + ys.length) (by omega) (by omega) (by omega) rfl rfl rfl rfl ?_; intro w1 hrow1 hbel1))
      go_loopw [28] (fun i wr => ∃ (k : Nat) (os : List Nat), k ≤ xs.length ∧ i = .int .i64 k ∧ MulOut xs ys k os ∧ Row wr w.heap.size os ∧ Below w.heap.size w wr) (fun i _ => xs.length - (intOf i).toNat)
      case atStart => exact ⟨0, _, by omega, rfl, MulOut.zero xs ys, hrow1, hbel1⟩
      case round =>
        obtain ⟨i, os, hi, rfl, hmo, hrow, hbel⟩ := hrel
        clear hrow1 hbel1
        have HM := Lib.hid hmo
        clear hmo
        by_cases hlt : i < xs.length
        · obtain ⟨b1, o1, rfl, hb1, hc1⟩ := ha.at_ (by rintro rfl; simp at hlt)
          have g1 : wr.cell? ⟨b1, o1 + i, none⟩ = some (.int .u32 (xs[i]'hlt)) := (hbel.cell (p := ⟨b1, o1 + i, none⟩) hb1).trans (hc1 i hlt)
          have hd1 := ha.ok.get hlt
          have HD1 := Lib.hid (at0_in hlt)
          clear hc1
          generalize hxi : xs[i] = di at *
          clear hxi
          go_wp2
          clear g1
          go_loopw [9, 35] (fun cv j wq => ∃ (k : Nat) (os : List Nat) (cr : Nat), k ≤ ys.length ∧ j = .int .i64 k ∧ cv = .int .u64 cr ∧ MulIn xs ys i di k os cr ∧ Row wq w.heap.size os ∧ Below w.heap.size w wq) (fun _ j _ => ys.length - (intOf j).toNat)
          case atStart => exact ⟨0, os, 0, by omega, rfl, rfl, HM.out.into, hrow, hbel⟩
          case round =>
            obtain ⟨k, os, cr, hk, rfl, rfl, hmi, hrow2, hbel2⟩ := hrel
            clear hrow hbel
            have hol := hmi.2.1
            have hok := hmi.1
            have hcr := hmi.2.2.1
            have HI := Lib.hid hmi
            have HOL := Lib.hid hol
            clear hmi hol
            by_cases hlk : k < ys.length
            · obtain ⟨b2, o2, rfl, hb2, hc2⟩ := hb.at_ (by rintro rfl; simp at hlk)
              have g2 : wr.cell? ⟨b2, o2 + k, none⟩ = some (.int .u32 (ys[k]'hlk)) := (hbel2.cell (p := ⟨b2, o2 + k, none⟩) hb2).trans (hc2 k hlk)
              have hd2 := hb.ok.get hlk
              have HD2 := Lib.hid (at0_in hlk)
              clear hc2
              have hik : i + k < os.length := by have := HOL.out; omega
              have g3 := hrow2.cell hik
              have g4 := hrow2.frozen (i + k)
              have hd3 := hok.get hik
              obtain ⟨M, hM, hMn, hMb⟩ := digits_mul hd1 hd2
              have HMn := Lib.hid hMn
              clear hMn
              generalize hyk : ys[k] = ek at *
              clear hyk
              generalize hoik : os[i + k] = oik at *
              have HO := Lib.hid hoik
              clear hoik
              go_wp2
              go_roundw
              case rel => exact ⟨k + 1, os.set (i + k) ((cr + (M + oik)) % 4294967296), (cr + (M + oik)) / 4294967296, by omega, by go_num, by go_num, HI.out.step hlt hlk hik (by omega) (by omega) (by rw [HD2.out, HO.out, ← HMn.out]; omega), hrow2.set (i + k) _ (by omega), hbel2.setCell (Nat.le_refl _) _⟩
              case measure => simp [intOf]; omega
            · have hkl : k = ys.length := by omega
              subst hkl
              have hik : i + ys.length < os.length := by have := HOL.out; omega
              have g3 := hrow2.cell hik
              have g4 := hrow2.frozen (i + ys.length)
              clear hk hlk
              go_wp2
              go_roundw
              case rel =>
                have h7 := HI.out
                rw [← HD1.out] at h7
                exact ⟨i + 1, os.set (i + ys.length) cr, by omega, by go_num, h7.out hlt rfl hik, hrow2.set (i + ys.length) _ (by omega), hbel2.setCell (Nat.le_refl _) _⟩
              case measure => simp [intOf]; omega
        · have hil : i = xs.length := by omega
          subst hil
          have hlen : os.length = xs.length + ys.length := HM.out.2.1
          have HR := hrow.rd HM.out.1 (by omega)
          rw [hlen] at HR
          have HF : ∀ w', Rd w' (some ⟨w.heap.size, 0, none⟩) (xs.length + ys.length) os → Calls Try.prog 64 #[.slice (some ⟨w.heap.size, 0, none⟩) (xs.length + ys.length) (xs.length + ys.length)] w' fun e w2 => RetSE w' w2 e (fitR (val os)) := by
            intro w' h
            have := fit_any _ _ _ w' h (by omega)
            rw [hlen] at this
            exact this
          have HF := Lib.hid HF
          clear hlen hlt hi
          go_wp2_with (go_at_call 64; refine (HF.out _ HR).mono ?_; rintro e w2 ⟨⟨A2, c2, rfl, hr2⟩, hb2⟩)
          go_ret2
          rw [HM.out.done rfl] at hr2 ⊢
          rw [HE.out]
          exact ⟨⟨A2, c2, rfl, hr2⟩, hbel.trans (hb2.mono hbel.size)⟩
    · have h2' : rightB ys = false := by simpa using h2
      clear h2
      have HE := Lib.hid (mulR_no (xs := xs) (ys := ys) (by rw [h2']; simp))
      go_enter Try.func57, Try.ntmps57
      go_wp2_with (go_at_call 53; refine (right_any _ _ _ _ (by first | exact ha | exact hb)).mono ?_; rintro e w' ⟨rfl, rfl⟩)
      go_ret2
      rw [HE.out]
      exact ⟨⟨none, 0, rfl, Rd.nil⟩, Below.refl _ _⟩
  · have h1' : rightB xs = false := by simpa using h1
    clear h1
    have HE := Lib.hid (mulR_no (xs := xs) (ys := ys) (by rw [h1']; simp))
    go_enter Try.func57, Try.ntmps57
    go_wp2_with (go_at_call 53; refine (right_any _ _ _ _ (by first | exact ha | exact hb)).mono ?_; rintro e w' ⟨rfl, rfl⟩)
    go_ret2
    rw [HE.out]
    exact ⟨⟨none, 0, rfl, Rd.nil⟩, Below.refl _ _⟩

end Go.Proofs.Ytlmgdhdakeekkaa

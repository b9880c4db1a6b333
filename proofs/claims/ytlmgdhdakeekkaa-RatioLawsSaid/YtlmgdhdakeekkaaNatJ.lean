/-
  Contracts of shift, guess, less, again.
-/
import Derived.Test.YtlmgdhdakeekkaaNatH
import Derived.Test.YtlmgdhdakeekkaaDivP
namespace Go.Proofs.Ytlmgdhdakeekkaa
open Go.RowKit Num

/-- A block of these digits is handed back. -/
def RetRow (w w' : World) (e : Ending) (os : List Nat) : Prop := (∃ g, e = .returned (.slice (some ⟨g, 0, none⟩) os.length os.length) ∧ Row w' g os ∧ w.heap.size ≤ g) ∧ Below w.heap.size w w'

theorem shl_fits {d s : Nat} (hd : d < 4294967296) (hs : s ≤ 31) : ∃ N : Nat, IntKind.u64.wrap ((d : Int) * 2 ^ s) = (N : Int) ∧ N = d * 2 ^ s ∧ N < 9223372036854775808 ∧ N / 4294967296 < 2 ^ s := by
  have h1 : 2 ^ s ≤ 2 ^ 31 := Nat.pow_le_pow_right (by decide) hs
  have h0 : 0 < 2 ^ s := Nat.two_pow_pos s
  have h2 : d * 2 ^ s ≤ 4294967295 * 2 ^ 31 := Nat.mul_le_mul (by omega) h1
  have h3 : d * 2 ^ s < 4294967296 * 2 ^ s := Nat.mul_lt_mul_of_pos_right hd h0
  have e : ((d : Int) * 2 ^ s) = ((d * 2 ^ s : Nat) : Int) := by rw [Int.natCast_mul, Int.natCast_pow]; rfl
  refine ⟨d * 2 ^ s, ?_, rfl, by omega, by rw [Nat.div_lt_iff_lt_mul (by decide), Nat.mul_comm (2 ^ s)]; exact h3⟩
  rw [e, IntWalk.u64_in _ (by omega)]
theorem or_low {o N d s : Nat} (hs : s ≤ 31) (hN : N = d * 2 ^ s) (ho : o < 2 ^ s) : bits .or .u32 (o : Int) ((N : Int) % 4294967296) = ((o + N % 4294967296 : Nat) : Int) ∧ o + N % 4294967296 < 4294967296 := by
  have h0 : 0 < 2 ^ s := Nat.two_pow_pos s
  have h1 : 2 ^ s ≤ 2 ^ 31 := Nat.pow_le_pow_right (by decide) hs
  have hm : N % 4294967296 % 2 ^ s = 0 := by
    have hdvd : 2 ^ s ∣ 4294967296 := ⟨2 ^ (32 - s), by rw [← Nat.pow_add, show s + (32 - s) = 32 by omega]⟩
    rw [Nat.mod_mod_of_dvd _ hdvd, hN, Nat.mul_mod_left]
  have hlt : N % 4294967296 < 4294967296 := Nat.mod_lt _ (by decide)
  have hsum : o + N % 4294967296 < 4294967296 := by
    obtain ⟨q, hq⟩ := Nat.dvd_of_mod_eq_zero hm
    have hpow : 2 ^ (32 - s) * 2 ^ s = 4294967296 := by rw [← Nat.pow_add, show 32 - s + s = 32 by omega]
    have hq1 : q < 2 ^ (32 - s) := by
      rw [hq, ← hpow, Nat.mul_comm (2 ^ (32 - s))] at hlt
      exact Nat.lt_of_mul_lt_mul_left hlt
    have : (q + 1) * 2 ^ s ≤ 2 ^ (32 - s) * 2 ^ s := Nat.mul_le_mul_right _ hq1
    rw [hpow, Nat.add_mul, Nat.one_mul, Nat.mul_comm q] at this
    omega
  refine ⟨?_, hsum⟩
  have e : ((N : Int) % 4294967296) = ((N % 4294967296 : Nat) : Int) := by omega
  rw [e, u32_or_nat _ _ (by omega) hlt, Nat.or_comm, nat_join s _ _ hm ho]
  congr 1
  omega

set_option maxRecDepth 100000 in
set_option maxHeartbeats 1000000 in
theorem shift_any (A : Option Addr) (c : Nat) (xs : List Nat) (s : Nat) (w : World) (ha : Rd w A c xs) (hs : xs.length ≤ 100000) (hsh : s ≤ 31) :
   Calls Try.prog 73 #[.slice A xs.length c, .int .i64 s] w fun e w' => ∃ os, ShiftTo xs s xs.length os ∧ RetRow w w' e os := by
  go_enter Try.func73, Try.ntmps73
  go_wp2_with (at_make; refine wp_makeN _ _ _ (xs.length + 1) (by omega) (by omega) (by omega) rfl rfl rfl rfl ?_; intro w1 hrow1 hbel1)
  go_loopw [15] (fun i wr => ∃ (k : Nat) (os : List Nat), k ≤ xs.length ∧ i = .int .i64 k ∧ ShiftTo xs s k os ∧ Row wr w.heap.size os ∧ Below w.heap.size w wr) (fun i _ => xs.length - (intOf i).toNat)
  case atStart => exact ⟨0, _, by omega, rfl, ShiftTo.zero xs s, hrow1, hbel1⟩
  case round =>
    obtain ⟨i, os, hi, rfl, hst, hrow, hbel⟩ := hrel
    clear hrow1 hbel1
    have HOL := Lib.hid hst.2.1
    have hok := hst.1
    have hlo := hst.2.2.1
    have HS := Lib.hid hst
    clear hst
    by_cases hlt : i < xs.length
    · obtain ⟨b1, o1, rfl, hb1, hc1⟩ := ha.at_ (by rintro rfl; simp at hlt)
      have g1 : wr.cell? ⟨b1, o1 + i, none⟩ = some (.int .u32 (xs[i]'hlt)) := (hbel.cell (p := ⟨b1, o1 + i, none⟩) hb1).trans (hc1 i hlt)
      have hd1 := ha.ok.get hlt
      have HD1 := Lib.hid (at0_in hlt)
      clear hc1
      have hik : i < os.length := by have := HOL.out; omega
      have hik1 : i + 1 < os.length := by have := HOL.out; omega
      have g3 := hrow.cell hik
      have g4 := hrow.frozen i
      have g5 := hrow.frozen (i + 1)
      have g6 := hrow.cell hik1
      generalize hxi : xs[i] = di at *
      clear hxi
      rw [at0_in hik] at hlo
      generalize hoi : os[i] = oi at *
      generalize hoi1 : os[i + 1] = oi1 at *
      have HO := Lib.hid hoi
      clear hoi hoi1
      obtain ⟨N, hN, hNd, hNb, hNh⟩ := shl_fits hd1 hsh
      obtain ⟨hor, hsum⟩ := or_low hsh hNd hlo
      have HNd := Lib.hid hNd
      have HNh := Lib.hid hNh
      have HH := Lib.hid hsum
      clear hNd hNh hlo hsum
      go_wp2
      go_roundw
      case rel =>
        have h2 : 2 ^ s ≤ 2 ^ 31 := Nat.pow_le_pow_right (by decide) hsh
        have h3 := HNh.out
        exact ⟨i + 1, (os.set i (oi + N % 4294967296)).set (i + 1) (N / 4294967296), by omega, by go_num,
          HS.out.step hlt hik1 (by rw [at0_in hik, HO.out]) HH.out (by omega) HNh.out (by rw [HD1.out, ← HNd.out]; omega),
          (hrow.set i (oi + N % 4294967296) (by omega)).set (i + 1) _ (by omega), (hbel.setCell (Nat.le_refl _) _).setCell (Nat.le_refl _) _⟩
      case measure => simp [intOf]; omega
    · have hil : i = xs.length := by omega
      subst hil
      go_wp2
      go_ret
      refine ⟨os, HS.out, ⟨w.heap.size, ?_, hrow, Nat.le_refl _⟩, hbel⟩
      rw [HOL.out]
      rfl

set_option maxRecDepth 100000 in
set_option maxHeartbeats 1000000 in
theorem guess_any (A B : Option Addr) (c d : Nat) (us vs : List Nat) (w : World) (ha : Rd w A c us) (hb : Rd w B d vs) (hu : 3 ≤ us.length) (hv : 2 ≤ vs.length) (hs : us.length ≤ 100000) (ht : vs.length ≤ 100000)
    (hpos : 0 < at0 vs (vs.length - 1)) (hle : at0 us (us.length - 1) ≤ at0 vs (vs.length - 1)) :
   Calls Try.prog 74 #[.slice A us.length c, .slice B vs.length d] w fun e w' => (∃ q : Nat, e = .returned (.int .u64 q) ∧ GuessOk (at0 us (us.length - 1)) (at0 us (us.length - 2)) (at0 us (us.length - 3)) (at0 vs (vs.length - 1)) (at0 vs (vs.length - 2)) q) ∧ Read w w' := by
  obtain ⟨b1, o1, rfl, hb1, hc1⟩ := ha.at_ (by rintro rfl; simp at hu)
  obtain ⟨b2, o2, rfl, hb2, hc2⟩ := hb.at_ (by rintro rfl; simp at hv)
  have g1 := hc1 (us.length - 1) (by omega)
  have g2 := hc1 (us.length - 2) (by omega)
  have g3 := hc1 (us.length - 3) (by omega)
  have g4 := hc2 (vs.length - 1) (by omega)
  have g5 := hc2 (vs.length - 2) (by omega)
  rw [← at0_in] at g1 g2 g3 g4 g5
  have l1 := at0_lt ha.ok (us.length - 1)
  have l2 := at0_lt ha.ok (us.length - 2)
  have l3 := at0_lt ha.ok (us.length - 3)
  have l4 := at0_lt hb.ok (vs.length - 1)
  have l5 := at0_lt hb.ok (vs.length - 2)
  generalize at0 us (us.length - 1) = u1 at *
  generalize at0 us (us.length - 2) = u2 at *
  generalize at0 us (us.length - 3) = u3 at *
  generalize at0 vs (vs.length - 1) = v1 at *
  generalize at0 vs (vs.length - 2) = v2 at *
  clear hc1 hc2
  have hjn := or_join (u1 : Int) (u2 : Int) (by omega) (by omega) (by omega) (by omega)
  obtain ⟨T, hT⟩ : ∃ T : Nat, T = u1 * 4294967296 + u2 := ⟨_, rfl⟩
  have hTi : (u1 : Int) * 4294967296 + (u2 : Int) = (T : Int) := by omega
  have hTb : T < 18446744073709551616 := by omega
  rw [hTi] at hjn
  have HT := Lib.hid hT
  clear hT
  have hq0 : IntKind.u64.wrap ((T : Int) / (v1 : Int)) = ((T / v1 : Nat) : Int) := by
    have : T / v1 ≤ T := Nat.div_le_self _ _
    rw [show ((T : Int) / (v1 : Int)) = ((T / v1 : Nat) : Int) from (Int.natCast_ediv _ _).symm]
    generalize T / v1 = Z at *
    exact IntWalk.u64_in _ (by omega)
  have hr0 : ((T : Int) % (v1 : Int)) = ((T % v1 : Nat) : Int) := (Int.natCast_emod _ _).symm
  have hG : GuessTo u1 u2 u3 v1 v2 (T / v1) (T % v1) := by rw [HT.out]; exact GuessTo.zero hpos l3
  have hqb : T / v1 < 18446744073709551616 := Nat.lt_of_le_of_lt (Nat.div_le_self _ _) hTb
  have hrb : T % v1 < 4294967296 := Nat.lt_trans (Nat.mod_lt _ hpos) l4
  have HG := Lib.hid hG
  clear hG
  generalize T / v1 = q0 at *
  generalize T % v1 = r0 at *
  go_enter Try.func74, Try.ntmps74
  go_wp2
  go_quiet (fail)
  go_wp2
  go_loopw [8, 9] (fun qv rv wr => ∃ (q r : Nat), qv = .int .u64 q ∧ rv = .int .u64 r ∧ q < 18446744073709551616 ∧ r < 4294967296 ∧ Hid (GuessTo u1 u2 u3 v1 v2 q r) ∧ Read w wr) (fun _ rv _ => (4294967296 - intOf rv).toNat)
  case atStart => exact ⟨q0, r0, rfl, by rw [hr0], hqb, hrb, HG, ⟨_, rfl⟩⟩
  case round =>
    obtain ⟨q, r, rfl, rfl, hq, hr, HG1, k0, rfl⟩ := hrel
    clear hqb hrb HG hjn hq0 hr0 hTi
    by_cases hbig : 4294967296 ≤ q
    · have hqp : 0 < q := by omega
      have hbd : decide ((4294967296 : Int) ≤ (q : Int)) = true := decide_eq_true (by omega)
      have HN := Lib.hid (HG1.out.step l3 (.inl hbig) hqp)
      clear hbig
      by_cases hbr : 4294967296 ≤ r + v1
      · have hrd : decide ((4294967296 : Int) ≤ (r : Int) + (v1 : Int)) = true := decide_eq_true (by omega)
        have HR := Lib.hid hbr
        clear hbr
        go_wp2
        go_quiet (fail)
        go_wp2
        go_ret
        refine ⟨⟨q - 1, ret_int (by omega), HN.out.out hle l2 (.inl HR.out)⟩, (by first | exact Read.refl _ | exact ⟨_, rfl⟩ | exact Read.drewN ⟨_, rfl⟩ _ | exact Read.drewN (Read.drewN ⟨_, rfl⟩ _) _ | exact Read.drewN (Read.refl _) _)⟩
      · have hrd : decide ((4294967296 : Int) ≤ (r : Int) + (v1 : Int)) = false := decide_eq_false (by omega)
        go_wp2
        go_quiet (fail)
        go_wp2
        go_roundw
        case rel => exact ⟨q - 1, r + v1, by go_num, by go_num, by omega, by omega, HN, (by first | exact Read.refl _ | exact ⟨_, rfl⟩ | exact Read.drewN ⟨_, rfl⟩ _ | exact Read.drewN (Read.drewN ⟨_, rfl⟩ _) _ | exact Read.drewN (Read.refl _) _)⟩
        case measure => simp [intOf]; omega
    · have hbd : decide ((4294967296 : Int) ≤ (q : Int)) = false := decide_eq_false (by omega)
      obtain ⟨M, hM, hMn, hMb⟩ := digits_mul (a := q) (b := v2) (by omega) l5
      have HMn := Lib.hid hMn
      have hj2 := or_join (r : Int) (u3 : Int) (by omega) (by omega) (by omega) (by omega)
      clear hMn
      by_cases ht : r * 4294967296 + u3 < M
      · have HN := Lib.hid (HG1.out.step l3 (.inr (by rw [← HMn.out]; exact ht)) (GuessTo.pos (u3 := u3) (v2 := v2) (q := q) (r := r) (.inr (by rw [← HMn.out]; exact ht))))
        have hqp := GuessTo.pos (u3 := u3) (v2 := v2) (q := q) (r := r) (.inr (by rw [← HMn.out]; exact ht))
        have htd : decide ((r : Int) * 4294967296 + (u3 : Int) < (M : Int)) = true := decide_eq_true (by omega)
        clear ht
        by_cases hbr : 4294967296 ≤ r + v1
        · have hrd : decide ((4294967296 : Int) ≤ (r : Int) + (v1 : Int)) = true := decide_eq_true (by omega)
          have HR := Lib.hid hbr
          clear hbr
          go_wp2
          go_quiet (fail)
          go_wp2
          go_ret
          refine ⟨⟨q - 1, ret_int (by omega), HN.out.out hle l2 (.inl HR.out)⟩, (by first | exact Read.refl _ | exact ⟨_, rfl⟩ | exact Read.drewN ⟨_, rfl⟩ _ | exact Read.drewN (Read.drewN ⟨_, rfl⟩ _) _ | exact Read.drewN (Read.refl _) _)⟩
        · have hrd : decide ((4294967296 : Int) ≤ (r : Int) + (v1 : Int)) = false := decide_eq_false (by omega)
          go_wp2
          go_quiet (fail)
          go_wp2
          go_roundw
          case rel => exact ⟨q - 1, r + v1, by go_num, by go_num, by omega, by omega, HN, (by first | exact Read.refl _ | exact ⟨_, rfl⟩ | exact Read.drewN ⟨_, rfl⟩ _ | exact Read.drewN (Read.drewN ⟨_, rfl⟩ _) _ | exact Read.drewN (Read.refl _) _)⟩
          case measure => simp [intOf]; omega
      · have HX := Lib.hid (HG1.out.out hle l2 (.inr ⟨by omega, by rw [← HMn.out]; omega⟩))
        have htd : decide ((r : Int) * 4294967296 + (u3 : Int) < (M : Int)) = false := decide_eq_false (by omega)
        go_wp2
        go_quiet (fail)
        go_wp2
        go_ret
        exact ⟨⟨q, rfl, HX.out⟩, (by first | exact Read.refl _ | exact ⟨_, rfl⟩ | exact Read.drewN ⟨_, rfl⟩ _ | exact Read.drewN (Read.drewN ⟨_, rfl⟩ _) _ | exact Read.drewN (Read.refl _) _)⟩

end Go.Proofs.Ytlmgdhdakeekkaa

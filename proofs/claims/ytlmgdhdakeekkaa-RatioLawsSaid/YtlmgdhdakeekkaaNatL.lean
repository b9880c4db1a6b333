/-
  Contracts of Of of both, small, Clone, twice.
-/
import Derived.Test.YtlmgdhdakeekkaaNatK
namespace Go.Proofs.Ytlmgdhdakeekkaa
open Go.RowKit Num

theorem of_val (u : Nat) : val [u % 4294967296, u / 4294967296] = u := by simp [val]; omega
theorem row_two (w : World) (a b : Nat) : Row (w.alloc (.cells #[.int .u32 (a : Int), .int .u32 (b : Int)] 78)) w.heap.size [a, b] := heap_alloc_new w _


set_option maxRecDepth 100000 in
theorem of_any (u : Nat) (w : World) (hu : u < 18446744073709551616) : Calls Try.prog 36 #[.int .u64 u] w fun e w' => RetS w w' e (dig u) := by
  have hlo : (((u % 4294967296 : Nat)) : Int) = (u : Int) % 4294967296 := by omega
  have hhi : (((u / 4294967296 : Nat)) : Int) = (u : Int) / 4294967296 := by omega
  have hR := row_two w (u % 4294967296) (u / 4294967296)
  rw [hlo, hhi] at hR
  have ho : Ok [u % 4294967296, u / 4294967296] := Ok.cons (by omega) (Ok.cons (by omega) Ok.nil)
  have hrd := hR.rd ho (by simp)
  have HV := Lib.hid (of_val u)
  have hbel : Below w.heap.size w (w.alloc (.cells #[.int .u32 ((u : Int) % 4294967296), .int .u32 ((u : Int) / 4294967296)] 78)) := (Below.refl _ _).alloc (Nat.le_refl _) _
  have hC : ∀ w', Rd w' (some ⟨w.heap.size, 0, none⟩) 2 [u % 4294967296, u / 4294967296] → Calls Try.prog 51 #[.slice (some ⟨w.heap.size, 0, none⟩) 2 2] w' fun e w2 => RetS w' w2 e (dig u) := by
    intro w' hr
    have := ((trim_any _ _ _ w' hr (by simp)).mono (fun e w2 ⟨h1, h2⟩ => by obtain ⟨h3, h4⟩ := trim_use h1 hr; subst h2; rw [HV.out] at h3 h4; exact ⟨⟨_, _, h3, h4⟩, Below.refl _ _⟩) : Calls Try.prog 51 #[.slice (some ⟨w.heap.size, 0, none⟩) 2 2] w' fun e w2 => RetS w' w2 e (dig u))
    exact this
  have HC := Lib.hid hC
  have HH := Lib.hid (And.intro hlo hhi)
  have HRD := Lib.hid hrd
  clear hlo hhi hR ho hC hrd
  go_enter Try.func36, Try.ntmps36
  go_wp2_with (go_at_call 51; refine (HC.out _ HRD.out).mono ?_; rintro e w' ⟨⟨A1, c1, rfl, h2⟩, h3⟩)
  go_ret
  exact ⟨⟨A1, c1, rfl, h2⟩, hbel.trans (h3.mono hbel.size)⟩

set_option maxRecDepth 100000 in
theorem rof_any (u : Nat) (w : World) (hu : u < 18446744073709551616) : Calls Try.prog 68 #[.int .u64 u] w fun e w' => RetS w w' e (dig u) := by
  have hlo : (((u % 4294967296 : Nat)) : Int) = (u : Int) % 4294967296 := by omega
  have hhi : (((u / 4294967296 : Nat)) : Int) = (u : Int) / 4294967296 := by omega
  have hR := row_two w (u % 4294967296) (u / 4294967296)
  rw [hlo, hhi] at hR
  have ho : Ok [u % 4294967296, u / 4294967296] := Ok.cons (by omega) (Ok.cons (by omega) Ok.nil)
  have hrd := hR.rd ho (by simp)
  have HV := Lib.hid (of_val u)
  have hbel : Below w.heap.size w (w.alloc (.cells #[.int .u32 ((u : Int) % 4294967296), .int .u32 ((u : Int) / 4294967296)] 78)) := (Below.refl _ _).alloc (Nat.le_refl _) _
  have hC : ∀ w', Rd w' (some ⟨w.heap.size, 0, none⟩) 2 [u % 4294967296, u / 4294967296] → Calls Try.prog 70 #[.slice (some ⟨w.heap.size, 0, none⟩) 2 2] w' fun e w2 => RetS w' w2 e (dig u) := by
    intro w' hr
    have := ((rtrim_any _ _ _ w' hr (by simp)).mono (fun e w2 ⟨v, h1, h2, h3⟩ => by rw [HV.out] at h2; obtain ⟨A2, c2, h4, h5⟩ := h2.rd (dig_ok _); subst h4; exact ⟨⟨_, _, h1, h5⟩, h3⟩) : Calls Try.prog 70 #[.slice (some ⟨w.heap.size, 0, none⟩) 2 2] w' fun e w2 => RetS w' w2 e (dig u))
    exact this
  have HC := Lib.hid hC
  have HH := Lib.hid (And.intro hlo hhi)
  have HRD := Lib.hid hrd
  clear hlo hhi hR ho hC hrd
  go_enter Try.func68, Try.ntmps68
  go_wp2_with (go_at_call 70; refine (HC.out _ HRD.out).mono ?_; rintro e w' ⟨⟨A1, c1, rfl, h2⟩, h3⟩)
  go_ret
  exact ⟨⟨A1, c1, rfl, h2⟩, hbel.trans (h3.mono hbel.size)⟩

/-- A quotient, and what is left. -/
def RetSU (w w' : World) (e : Ending) (ys : List Nat) (k : IntKind) (r : Nat) : Prop := (∃ A c, e = .returned (.tuple #[.slice A ys.length c, .int k r]) ∧ Rd w' A c ys ∧ ∀ a, A = some a → w.heap.size ≤ a.block) ∧ Below w.heap.size w w'

set_option maxRecDepth 100000 in
set_option maxHeartbeats 1000000 in
theorem small_any (A : Option Addr) (c : Nat) (xs : List Nat) (b : Nat) (w : World) (ha : Rd w A c xs) (hs : xs.length ≤ 100000) (hb0 : 0 < b) (hb : b < 4294967296) :
   Calls Try.prog 61 #[.slice A xs.length c, .int .u32 b] w fun e w' => RetSU w w' e (dig (val xs / b)) .u32 (val xs % b) := by
  go_enter Try.func61, Try.ntmps61
  go_wp2_with (at_make; refine wp_makeN _ _ _ xs.length (by omega) (by omega) (by omega) rfl rfl rfl rfl ?_; intro w1 hrow1 hbel1)
  go_loopw [7, 8] (fun lv i wr => ∃ (k : Nat) (os : List Nat) (r : Nat), k ≤ xs.length ∧ i = .int .i64 ((k : Int) - 1) ∧ lv = .int .u32 r ∧ SmallTo xs b k os r ∧ Row wr w.heap.size os ∧ Below w.heap.size w wr) (fun _ i _ => (intOf i + 1).toNat)
  case atStart => exact ⟨xs.length, _, 0, by omega, rfl, rfl, SmallTo.zero xs b hb0, hrow1, hbel1⟩
  case round =>
    obtain ⟨k, os, r, hk, rfl, rfl, hst, hrow, hbel⟩ := hrel
    clear hrow1 hbel1
    have hol := hst.2.1
    have HOL := Lib.hid hol
    have hrb := hst.2.2.1
    have HS := Lib.hid hst
    clear hst hol
    cases k with
    | succ k =>
      have hlt : k < xs.length := hk
      obtain ⟨b1, o1, rfl, hb1, hc1⟩ := ha.at_ (by rintro rfl; simp at hlt)
      have g1 : wr.cell? ⟨b1, o1 + k, none⟩ = some (.int .u32 (xs[k]'hlt)) := (hbel.cell (p := ⟨b1, o1 + k, none⟩) hb1).trans (hc1 k hlt)
      have hd1 := ha.ok.get hlt
      clear hc1
      have hik : k < os.length := by rw [HOL.out]; exact hlt
      have g3 := hrow.cell hik
      have g4 := hrow.frozen k
      have HX : Hid (∀ q r', q < 4294967296 → r' < b → q * b + r' = r * 4294967296 + xs[k] → SmallTo xs b k (os.set k q) r') := fun q r' h1 h2 h3 => HS.out.step hlt h1 h2 h3
      generalize hxi : xs[k] = di at *
      clear hxi
      obtain ⟨N, hN⟩ : ∃ N : Nat, N = r * 4294967296 + di := ⟨_, rfl⟩
      have hNi : (r : Int) * 4294967296 + (di : Int) = (N : Int) := by omega
      have hq : N / b < 4294967296 := by
        rw [Nat.div_lt_iff_lt_mul hb0]
        have : (r + 1) * 4294967296 ≤ b * 4294967296 := Nat.mul_le_mul_right _ hrb
        omega
      have hrr : N % b < b := Nat.mod_lt _ hb0
      have he : N / b * b + N % b = r * 4294967296 + di := by rw [← hN, Nat.mul_comm]; exact Nat.div_add_mod _ _
      have HF := Lib.hid (HX.out _ _ hq hrr he)
      have HD : Hid (((r : Int) * 4294967296 + (di : Int)) / (b : Int) = ((N / b : Nat) : Int) ∧ ((r : Int) * 4294967296 + (di : Int)) % (b : Int) = ((N % b : Nat) : Int)) := by
        unfold Hid
        rw [hNi]
        exact ⟨(Int.natCast_ediv _ _).symm, (Int.natCast_emod _ _).symm⟩
      clear he hN hNi HX
      generalize N / b = q at *
      generalize N % b = r' at *
      go_wp2_with (go_at_call 71; refine (div32_any _ _ _ _ (by omega) (by omega) (by omega) (by omega) (by omega) (by omega)).mono ?_; rintro e w' ⟨rfl, n0, rfl⟩; rw [HD.out.1, HD.out.2])
      go_roundw
      case rel => exact ⟨k, _, r', by omega, by go_num, rfl, HF.out, (hrow.drewN n0).set _ _ rfl, (hbel.trans ((Read.refl wr).drewN n0 |>.below _)).setCell (Nat.le_refl _) _⟩
      case measure => simp [intOf]
    | zero =>
      have hro := hrow.rd HS.out.1 (by rw [HOL.out]; omega)
      rw [HOL.out] at hro
      have hC : ∀ w', Rd w' (some ⟨w.heap.size, 0, none⟩) xs.length os → Calls Try.prog 51 #[.slice (some ⟨w.heap.size, 0, none⟩) xs.length xs.length] w' fun (e : Ending) w2 => (e = .returned (.slice (some ⟨w.heap.size, 0, none⟩) (dig (val os)).length xs.length) ∧ Rd w' (some ⟨w.heap.size, 0, none⟩) xs.length (dig (val os))) ∧ w' = w2 := by
        intro w' hr
        have := (trim_any _ _ _ w' hr (by rw [HOL.out]; omega)).mono (fun e w2 ⟨h1, h2⟩ => (⟨trim_use h1 hr, h2⟩ : (e = Ending.returned (.slice (some ⟨w.heap.size, 0, none⟩) (dig (val os)).length xs.length) ∧ Rd w' (some ⟨w.heap.size, 0, none⟩) xs.length (dig (val os))) ∧ w' = w2))
        rw [HOL.out] at this
        exact this
      have HC := Lib.hid hC
      clear hC
      go_wp2_with (go_at_call 51; refine (HC.out _ hro).mono ?_; rintro e w' ⟨⟨rfl, h2⟩, rfl⟩)
      go_ret2
      obtain ⟨hv1, hv2⟩ := HS.out.done
      rw [hv1] at h2 ⊢
      refine ⟨⟨_, _, ?_, h2, fun a h => by injection h with h; subst h; exact Nat.le_refl _⟩, hbel⟩
      rw [hv2]
      rfl

end Go.Proofs.Ytlmgdhdakeekkaa

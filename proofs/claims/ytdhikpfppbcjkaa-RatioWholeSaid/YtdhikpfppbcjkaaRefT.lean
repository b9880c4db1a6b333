/-
  Contracts of touchstoneref02.tenth and Text.
-/
import Derived.Test.YtdhikpfppbcjkaaSgF
set_option linter.unusedSimpArgs false
set_option linter.unusedVariables false
namespace Go.Proofs.Ytdhikpfppbcjkaa
open Go.RowKit Num

/-- Digits, and a number. -/
def RetSK (w w' : World) (e : Ending) (ys : List Nat) (r : Nat) : Prop := (∃ A c, e = .returned (.tuple #[.slice A ys.length c, .int .u64 r]) ∧ Rd w' A c ys) ∧ Below w.heap.size w w'
set_option maxRecDepth 100000 in
set_option maxHeartbeats 1000000 in
theorem tenth_any (A : Option Addr) (c : Nat) (xs : List Nat) (w : World) (ha : Rd w A c xs) (hs : xs.length ≤ 100000) :
   Calls Try.prog 103 #[.slice A xs.length c] w fun e w' => RetSK w w' e (dig (val xs / 10)) (val xs % 10) := by
  go_enter Try.func103, Try.ntmps103
  go_wp2_with (at_make; refine wp_makeN _ _ _ xs.length (by omega) (by omega) (by omega) rfl rfl rfl rfl ?_; intro w1 hrow1 hbel1)
  go_loopw [5, 6] (fun lv i wr => ∃ (k : Nat) (os : List Nat) (r : Nat), k ≤ xs.length ∧ i = .int .i64 ((k : Int) - 1) ∧ lv = .int .u64 r ∧ SmallTo xs 10 k os r ∧ Row wr w.heap.size os ∧ Below w.heap.size w wr) (fun _ i _ => (intOf i + 1).toNat)
  case atStart => exact ⟨xs.length, _, 0, by omega, rfl, rfl, SmallTo.zero xs 10 (by decide), hrow1, hbel1⟩
  case round =>
    obtain ⟨k, os, r, hk, rfl, rfl, hst, hrow, hbel⟩ := hrel
    clear hrow1 hbel1
    have hol := hst.2.1
    have HOL := Lib.hid hol
    have hrb := hst.2.2.1
    have HS := Lib.hid hst
    clear hst hol
    cases k with
    | succ k =>
      have hlt : k < xs.length := hk
      obtain ⟨b1, o1, rfl, hb1, hc1⟩ := ha.at_ (by rintro rfl; simp at hlt)
      have g1 : wr.cell? ⟨b1, o1 + k, none⟩ = some (.int .u32 (xs[k]'hlt)) := (hbel.cell (p := ⟨b1, o1 + k, none⟩) hb1).trans (hc1 k hlt)
      have hd1 := ha.ok.get hlt
      clear hc1
      have hik : k < os.length := by rw [HOL.out]; exact hlt
      have g3 := hrow.cell hik
      have g4 := hrow.frozen k
      have HX : Hid (∀ q r', q < 4294967296 → r' < 10 → q * 10 + r' = r * 4294967296 + xs[k] → SmallTo xs 10 k (os.set k q) r') := fun q r' h1 h2 h3 => HS.out.step hlt h1 h2 h3
      generalize hxi : xs[k] = di at *
      clear hxi
      have hq : (r * 4294967296 + di) / 10 < 4294967296 := by omega
      have hrr : (r * 4294967296 + di) % 10 < 10 := Nat.mod_lt _ (by decide)
      have HF := Lib.hid (HX.out _ _ hq hrr (by rw [Nat.mul_comm]; exact Nat.div_add_mod _ _))
      have HD : Hid (((r : Int) * 4294967296 + (di : Int)) / 10 = (((r * 4294967296 + di) / 10 : Nat) : Int) ∧ ((r : Int) * 4294967296 + (di : Int)) % 10 = (((r * 4294967296 + di) % 10 : Nat) : Int)) := by
        unfold Hid
        omega
      clear HX hq hrr
      go_wp2
      go_roundw
      case rel => exact ⟨k, _, _, by omega, by go_num, by rw [HD.out.2], HF.out, hrow.set _ _ HD.out.1, hbel.setCell (Nat.le_refl _) _⟩
      case measure => simp [intOf]
    | zero =>
      have hro := hrow.rd HS.out.1 (by rw [HOL.out]; omega)
      rw [HOL.out] at hro
      have hC : ∀ w', Rd w' (some ⟨w.heap.size, 0, none⟩) xs.length os → Calls Try.prog 101 #[.slice (some ⟨w.heap.size, 0, none⟩) xs.length xs.length] w' fun (e : Ending) w2 => ∃ v, e = .returned v ∧ Own w2 w'.heap.size v (dig (val os)) ∧ Below w'.heap.size w' w2 := by
        intro w' hr
        have := rtrim_any _ _ _ w' hr (by rw [HOL.out]; omega)
        rw [HOL.out] at this
        exact this
      have HC := Lib.hid hC
      clear hC
      go_wp2_with (go_at_call 101; refine (HC.out _ hro).mono ?_; rintro e w' ⟨v, rfl, hown, hb2⟩)
      go_ret2
      obtain ⟨hv1, hv2⟩ := HS.out.done
      obtain ⟨A2, c2, rfl, hr2⟩ := hown.rd (dig_ok _)
      rw [hv1] at hr2 ⊢
      refine ⟨⟨A2, c2, ?_, hr2⟩, hbel.trans (hb2.mono hbel.size)⟩
      rw [hv2]
      rfl

theorem enc_digit {d : Nat} (h : d < 10) : Utf8.encode (48 + (d : Int)) = ⟨#[UInt8.ofNat (48 + d)]⟩ := by
  match d, h with
  | 0, _ => rfl
  | 1, _ => rfl
  | 2, _ => rfl
  | 3, _ => rfl
  | 4, _ => rfl
  | 5, _ => rfl
  | 6, _ => rfl
  | 7, _ => rfl
  | 8, _ => rfl
  | 9, _ => rfl
theorem cat_one (u : UInt8) (l : List UInt8) : ((⟨#[u]⟩ : ByteArray) ++ (⟨l.toArray⟩ : ByteArray)) = ⟨(u :: l).toArray⟩ := by
  apply ByteArray.ext
  simp
set_option maxRecDepth 100000 in
set_option maxHeartbeats 1000000 in
theorem rtext_any (A : Option Addr) (c : Nat) (xs : List Nat) (w : World) (ha : Rd w A c xs) :
   Calls Try.prog 85 #[.slice A xs.length c] w fun e w' => RetTE w w' e (textR xs) := by
  rcases Bool.eq_false_or_eq_true (rightB xs) with h1 | h1
  case inr =>
    have HE : Hid (textR xs = ([], 2)) := by unfold Hid textR; rw [h1]; rfl
    have H1 := Lib.hid h1
    clear h1
    go_enter Try.func85, Try.ntmps85
    go_wp2_with fail
    refine (rright_any A c xs w ha).mono ?_
    rintro e w2 ⟨rfl, rfl⟩
    rw [H1.out]
    go_wp2
    go_ret2
    rw [HE.out]
    exact ⟨rfl, Below.refl _ _⟩
  have hl := right_len h1
  have HD := Lib.hid (right_dig ha.ok h1)
  have HE : Hid (textR xs = (decS (val xs), 0)) := by unfold Hid textR; rw [if_pos h1]
  have H1 := Lib.hid h1
  clear h1
  by_cases hx : xs = []
  · subst hx
    go_enter Try.func85, Try.ntmps85
    go_wp2_with fail
    refine (rright_any A c [] w ha).mono ?_
    rintro e w2 ⟨rfl, rfl⟩
    rw [H1.out]
    go_wp2
    go_ret2
    rw [HE.out]
    exact ⟨rfl, Below.refl _ _⟩
  · have hx0 : 0 < xs.length := List.length_pos_iff.2 hx
    have hx1 : ((xs.length : Int) == 0) = false := beq_eq_false_iff_ne.2 (by omega)
    have HB : Hid ((decR (val xs)).length ≤ 2560) := decR_len_dig (k := 256) (by rw [HD.out]; exact hl)
    have HN : Hid (0 < val xs) := val_pos_right ha.ok H1.out hx
    clear hx
    go_enter Try.func85, Try.ntmps85
    go_wp2_with fail
    refine (rright_any A c xs w ha).mono ?_
    rintro e w2 ⟨rfl, rfl⟩
    rw [H1.out]
    go_wp2_with fail
    go_loopw [0, 4] (fun a s wr => ∃ (q : Nat) (A1 : Option Addr) (c1 : Nat) (l : List UInt8), a = .slice A1 (dig q).length c1 ∧ s = .string ⟨l.toArray⟩ ∧ Rd wr A1 c1 (dig q) ∧ (dig q).length ≤ 256 ∧ l.length ≤ 3000 ∧ Hid ((decR (val xs)).reverse = (decR q).reverse ++ l) ∧ Below w.heap.size w wr) (fun a _ wr => numAt wr a)
    case atStart =>
      refine ⟨val xs, A, c, [], ?_, rfl, ?_, ?_, by simp, by simp [Hid], Below.refl _ _⟩
      · rw [HD.out]
      · rw [HD.out]; exact ha
      · rw [HD.out]; exact hl
    case round =>
      obtain ⟨q, A1, c1, l, rfl, rfl, hr, hlq, hll, hd, hbel⟩ := hrel
      by_cases hq : q = 0
      · subst hq
        have hq0 : (dig 0).length ≤ 0 := Nat.le_refl _
        go_wp2
        go_ret2
        rw [HE.out]
        have e : decS (val xs) = l := by
          have := hd.out
          rw [decR_zero] at this
          unfold decS
          rw [if_neg (by have := HN.out; omega), this]
          rfl
        rw [e]
        exact ⟨rfl, hbel⟩
      · have hq0 : 0 < (dig q).length := dig_len_pos.2 (by omega)
        have HQ := Lib.hid hq
        clear hq
        go_wp2_with fail
        refine (tenth_any A1 c1 (dig q) _ hr (by omega)).mono ?_
        rw [val_dig]
        rintro e w3 ⟨⟨A3, c3, rfl, hr3⟩, hb3⟩
        have hm : q % 10 < 10 := Nat.mod_lt _ (by decide)
        generalize hmd : q % 10 = md at *
        have HM := Lib.hid hmd
        clear hmd
        have hsz : (Utf8.encode (48 + (md : Int))).size ≤ 1 := by rw [enc_digit hm]; exact Nat.le_refl _
        have HU := Lib.hid (enc_digit hm)
        go_wp2
        have hd2 : (decR (val xs)).reverse = (decR (q / 10)).reverse ++ (UInt8.ofNat (48 + md) :: l) := by
          rw [hd.out, decR_pos q (by have := HQ.out; omega), HM.out, List.reverse_cons, List.append_assoc]
          rfl
        refine ⟨⟨q / 10, A3, c3, UInt8.ofNat (48 + md) :: l, rfl, ?_, hr3, ?_, ?_, hd2, below_trans hbel hb3⟩, ?_⟩
        · rw [HU.out, cat_one]
        · exact Nat.le_trans (dig_len_mono (Nat.div_le_self _ _)) hlq
        · have := congrArg List.length hd2
          simp only [List.length_reverse, List.length_append] at this
          have h2 := HB.out
          omega
        · rw [numAt_eq hr3, numAt_eq hr]
          have := HQ.out
          omega
set_option maxRecDepth 100000 in
set_option maxHeartbeats 1000000 in
theorem rstext_any (n : Bool) (A : Option Addr) (c : Nat) (xs : List Nat) (w : World) (ha : Rd w A c xs) :
    Calls Try.prog 57 #[iv n A xs.length c] w fun e w' => RetTE w w' e (stextR n xs) := by
  have ha0 := ha.alloc (.cells #[.bool n, .slice A xs.length c] 24)
  have hb0 := below_alloc1 w (.cells #[.bool n, .slice A xs.length c] 24)
  have k1 := Blk.new w 24 #[.bool n, .slice A xs.length c]
  rcases Bool.eq_false_or_eq_true (sright n xs) with h1 | h1
  · have HT : Hid (textR xs = (decS (val xs), 0)) := by unfold Hid textR; rw [if_pos (sright_rightB h1)]
    have H1 := Lib.hid h1
    have hdl := decS_len256 ha.ok (sright_rightB h1)
    cases n
    · have HE := Lib.hid (stextR_p h1)
      clear h1
      go_enter Try.func57, Try.ntmps57
      go_wp2_with fail
      refine (srright_any _ A c xs _ ha0).mono ?_
      rintro e w2 ⟨rfl, hb2⟩
      rw [H1.out]
      have k2 := k1.below hb2 (Nat.le_refl _)
      obtain ⟨v1, v2, _, _⟩ := k2.both
      have ha2 := ha0.below hb2 (Nat.le_refl _)
      have hbel := below_trans hb0 hb2
      clear hb2 k1 ha0 hb0
      go_wp2_with fail
      refine (rtext_any A c xs w2 ha2).mono ?_
      rintro e w3 ⟨rfl, hb3⟩
      rw [HT.out]
      obtain ⟨v3, v4, _, _⟩ := (k2.below hb3 (Nat.le_refl _)).both
      have hbel3 := below_trans hbel hb3
      go_wp2
      go_ret2
      rw [HE.out]
      exact ⟨rfl, hbel3⟩
    · have HE := Lib.hid (stextR_n ha.ok h1)
      clear h1
      go_enter Try.func57, Try.ntmps57
      go_wp2_with fail
      refine (srright_any _ A c xs _ ha0).mono ?_
      rintro e w2 ⟨rfl, hb2⟩
      rw [H1.out]
      have k2 := k1.below hb2 (Nat.le_refl _)
      obtain ⟨v1, v2, _, _⟩ := k2.both
      have ha2 := ha0.below hb2 (Nat.le_refl _)
      have hbel := below_trans hb0 hb2
      clear hb2 k1 ha0 hb0
      go_wp2_with fail
      refine (rtext_any A c xs w2 ha2).mono ?_
      rintro e w3 ⟨rfl, hb3⟩
      rw [HT.out]
      obtain ⟨v3, v4, _, _⟩ := (k2.below hb3 (Nat.le_refl _)).both
      have hbel3 := below_trans hbel hb3
      go_wp2
      go_ret2
      rw [HE.out]
      refine ⟨?_, hbel3⟩
      show Ending.returned (.tuple #[.string (⟨#[45]⟩ ++ ⟨(decS (val xs)).toArray⟩), .int .i64 0]) = _
      rw [cat45]
  · have HE := Lib.hid (stextR_no h1)
    have H1 := Lib.hid h1
    clear h1
    go_enter Try.func57, Try.ntmps57
    go_wp2_with fail
    refine (srright_any _ A c xs _ ha0).mono ?_
    rintro e w2 ⟨rfl, hb2⟩
    rw [H1.out]
    have k2 := k1.below hb2 (Nat.le_refl _)
    obtain ⟨v1, v2, _, _⟩ := k2.both
    have ha2 := ha0.below hb2 (Nat.le_refl _)
    have hbel := below_trans hb0 hb2
    clear hb2 k1 ha0 hb0
    go_wp2
    go_ret2
    rw [HE.out]
    exact ⟨rfl, hbel⟩
end Go.Proofs.Ytdhikpfppbcjkaa

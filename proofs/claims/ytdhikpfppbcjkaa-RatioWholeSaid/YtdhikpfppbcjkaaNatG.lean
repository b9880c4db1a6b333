/-
  Contracts of scaled, Product, Mul of both, Of of both.
-/
import Derived.Test.YtdhikpfppbcjkaaNatF
namespace Go.Proofs.Ytdhikpfppbcjkaa
open Go.RowKit Num

def mulR (xs ys : List Nat) : List Nat × Int := if rightB xs && rightB ys then fitR (val xs * val ys) else ([], 2)
theorem mulR_eq {xs ys : List Nat} (h1 : rightB xs = true) (h2 : rightB ys = true) : mulR xs ys = fitR (val xs * val ys) := by simp [mulR, h1, h2]
theorem mulR_no {xs ys : List Nat} (h : (rightB xs && rightB ys) = false) : mulR xs ys = ([], 2) := by simp [mulR, h]


theorem rep_snoc (k : Nat) : List.replicate k 0 ++ [0] = List.replicate (k + 1) (0 : Nat) := by rw [List.replicate_succ']

set_option maxRecDepth 100000 in
set_option maxHeartbeats 1000000 in
theorem scaled_any (A : Option Addr) (c : Nat) (xs : List Nat) (d by_ : Nat) (w : World) (ha : Rd w A c xs) (hs : xs.length ≤ 100000) (hd : d < 4294967296) (hy : by_ ≤ 100000) :
   Calls Try.prog 105 #[.slice A xs.length c, .int .u64 d, .int .i64 by_] w fun e w' => RetS w w' e (dig (val xs * d * 4294967296 ^ by_)) := by
  go_enter Try.func105, Try.ntmps105
  go_wp2
  go_loopw [7, 8] (fun v i wr => ∃ (k : Nat), k ≤ by_ ∧ i = .int .i64 k ∧ Own wr w.heap.size v (List.replicate k 0) ∧ Below w.heap.size w wr) (fun _ i _ => by_ - (intOf i).toNat)
  case atStart => exact ⟨0, by omega, rfl, Own.nil _ _, Below.refl _ _⟩
  case round =>
    obtain ⟨k, hk, rfl, hown, hbel⟩ := hrel
    by_cases hlt : k < by_
    · go_wp2_with (at_builtin; refine wp_app1 _ _ _ w.heap.size _ _ 0 rfl hown hbel.size (by simp; omega) rfl rfl rfl rfl ?_; intro v' w' hown' _ hbel')
      go_roundw
      case rel => exact ⟨k + 1, by omega, by go_num, by rw [← rep_snoc]; exact hown', hbel.trans hbel'⟩
      case measure => simp [intOf]; omega
    · have hkb : k = by_ := by omega
      subst hkb
      go_wp2
      go_loopw [7, 9, 10] (fun v cv i wr => ∃ (j : Nat) (outs : List Nat) (cr : Nat), j ≤ xs.length + 1 ∧ i = .int .i64 j ∧ cv = .int .u64 cr ∧ Scal xs d k j outs cr ∧ Own wr w.heap.size v outs ∧ Below w.heap.size w wr) (fun _ _ i _ => xs.length + 1 - (intOf i).toNat)
      case atStart => exact ⟨0, _, 0, by omega, rfl, rfl, Scal.zero xs d k, hown, hbel⟩
      case round =>
        obtain ⟨j, outs, cr, hj, rfl, rfl, hsc, hown1, hbel1⟩ := hrel
        have hol : outs.length ≤ 1000000 := by have := hsc.2.1; omega
        have hcr := hsc.2.2.1
        have HS := Lib.hid hsc
        clear hsc hown hbel hk hlt
        have ha1 := ha.below hbel1 (Nat.le_refl _)
        have hd1 := at0_lt ha.ok j
        have hm := Nat.mul_le_mul (Nat.le_of_lt_succ hd1) (Nat.le_of_lt_succ hd)
        have hm1 : (at0 xs j : Int) * (d : Int) ≤ 18446744065119617025 := by
          have : ((at0 xs j * d : Nat) : Int) ≤ ((4294967295 * 4294967295 : Nat) : Int) := Int.ofNat_le.2 hm
          rw [Int.natCast_mul] at this
          omega
        have hm0 : 0 ≤ (at0 xs j : Int) * (d : Int) := by
          have : (0 : Int) ≤ ((at0 xs j * d : Nat) : Int) := Int.natCast_nonneg _
          rwa [Int.natCast_mul] at this
        obtain ⟨M, hM⟩ : ∃ M : Nat, (at0 xs j : Int) * (d : Int) = (M : Int) := ⟨at0 xs j * d, (Int.natCast_mul _ _).symm⟩
        have hMn : M = at0 xs j * d := by
          apply Int.ofNat.inj
          show (M : Int) = ((at0 xs j * d : Nat) : Int)
          rw [← hM, Int.natCast_mul]
        rw [hM] at hm1 hm0
        have HM := Lib.hid hMn
        clear hm hMn
        by_cases hlt : j < xs.length + 1
        · go_wp2_with (first
            | (go_at_call 100; refine (digit_any _ _ _ _ _ ha1 (by omega)).mono ?_; rintro e w' ⟨rfl, rfl⟩)
            | (at_builtin; refine wp_app1 _ _ _ w.heap.size _ outs ((M + cr) % 4294967296) (by omega) hown1 hbel1.size hol rfl rfl rfl rfl ?_; intro v' w' hown' _ hbel'))
          go_roundw
          case rel => exact ⟨j + 1, _, (M + cr) / 4294967296, by omega, by go_num, by go_num, HS.out.step (by omega) (by omega) (by rw [← HM.out]; omega), hown', hbel1.trans hbel'⟩
          case measure => simp [intOf]; omega
        · have hjl : j = xs.length + 1 := by omega
          subst hjl
          obtain ⟨A', c', rfl, hr⟩ := hown1.rd HS.out.1
          go_wp2_with (go_at_call 101; refine (rtrim_any A' c' outs _ hr hol).mono ?_; rintro e w' ⟨v, rfl, h2, h3⟩)
          go_ret
          have hv := HS.out.done ha.ok hd
          rw [hv] at h2
          obtain ⟨A2, c2, rfl, hr2⟩ := h2.rd (dig_ok _)
          exact ⟨⟨A2, c2, rfl, hr2⟩, hbel1.trans (h3.mono hbel1.size)⟩

theorem mul_zero_dig (m : Nat) : dig (m * val ([] : List Nat)) = [] := by simp [val, dig_zero]

set_option maxRecDepth 100000 in
set_option maxHeartbeats 1000000 in
theorem product_any (A B : Option Addr) (c d : Nat) (xs ys : List Nat) (w : World) (ha : Rd w A c xs) (hb : Rd w B d ys) (hs : xs.length ≤ 10000) (ht : ys.length ≤ 10000) :
   Calls Try.prog 87 #[.slice A xs.length c, .slice B ys.length d] w fun e w' => RetS w w' e (dig (val xs * val ys)) := by
  go_enter Try.func87, Try.ntmps87
  go_wp2
  go_loopw [5, 6] (fun v i wr => ∃ (k : Nat) (A1 : Option Addr) (c1 : Nat), k ≤ ys.length ∧ i = .int .i64 k ∧ v = .slice A1 (dig (val xs * val (ys.take k))).length c1 ∧ Rd wr A1 c1 (dig (val xs * val (ys.take k))) ∧ Below w.heap.size w wr) (fun _ i _ => ys.length - (intOf i).toNat)
  case atStart =>
    have e : dig (val xs * val (ys.take 0)) = [] := by simp [val, dig_zero]
    exact ⟨0, none, 0, by omega, rfl, by rw [e]; rfl, by rw [e]; exact Rd.nil, Below.refl _ _⟩
  case round =>
    obtain ⟨k, A1, c1, hk, rfl, rfl, hr1, hbel⟩ := hrel
    have hl1 : (dig (val xs * val (ys.take k))).length ≤ 20000 := by
      have h3 := val_lt (hb.ok.take k)
      have := prod_len (val_lt ha.ok) h3
      rw [List.length_take] at this
      omega
    by_cases hlt : k < ys.length
    · obtain ⟨b2, o2, rfl, hb2, hc2⟩ := hb.at_ (by rintro rfl; simp at hlt)
      have h2 : wr.cell? ⟨b2, o2 + k, none⟩ = some (.int .u32 (ys[k]'hlt)) := (hbel.cell (p := ⟨b2, o2 + k, none⟩) hb2).trans (hc2 k hlt)
      have hd2 := hb.ok.get hlt
      clear hc2
      have ha1 := ha.below hbel (Nat.le_refl _)
      have hl2 : (dig (val xs * ys[k] * 4294967296 ^ k)).length ≤ 30000 := by
        have h4 : val xs * ys[k] < 4294967296 ^ (xs.length + 1) := by
          rw [Nat.pow_succ]
          exact Nat.mul_lt_mul'' (val_lt ha.ok) hd2
        have h5 : (4294967296 ^ k : Nat) < 4294967296 ^ (k + 1) := Nat.pow_lt_pow_right (by decide) (by omega)
        have := prod_len h4 h5
        omega
      have HE : Hid (val xs * val (ys.take k) + val xs * ys[k] * 4294967296 ^ k = val xs * val (ys.take (k + 1))) := by
        unfold Hid
        rw [val_take_succ ys k hlt, Nat.mul_add, Nat.mul_assoc, Nat.mul_comm (ys[k])]
      obtain ⟨X, hX⟩ : ∃ X, X = val xs * val (ys.take k) := ⟨_, rfl⟩
      rw [← hX] at HE hr1 hl1 ⊢
      have HX := Lib.hid hX
      clear hX
      obtain ⟨Y, hY⟩ : ∃ Y, Y = val xs * ys[k] * 4294967296 ^ k := ⟨_, rfl⟩
      have hv1 := val_dig X
      have hv2 := val_dig Y
      go_wp2_with (first
        | (go_at_call 105; refine (scaled_any _ _ _ _ _ _ ha1 (by omega) hd2 (by omega)).mono ?_; rintro e w1 ⟨⟨A2, c2, rfl, hr2⟩, hb2'⟩; rw [← hY] at hr2 HE hl2 ⊢; have HY := Lib.hid hY; clear hY)
        | (go_at_call 79; refine (plus_any _ _ _ _ _ _ _ (hr1.below hb2' (Nat.le_refl _)) hr2 (by omega) (by omega)).mono ?_; rintro e w2 ⟨⟨A3, c3, rfl, hr3⟩, hb3⟩; rw [hv1, hv2] at hr3 ⊢))
      go_roundw
      case rel =>
        have h6 := HE.out
        exact ⟨k + 1, A3, c3, by omega, by go_num, by rw [← h6], by rw [← h6]; exact hr3, hbel.trans ((hb2'.mono hbel.size).trans (hb3.mono (Nat.le_trans hbel.size hb2'.size)))⟩
      case measure => simp [intOf]; omega
    · have hjl : k = ys.length := by omega
      subst hjl
      go_wp2
      go_ret
      rw [List.take_length] at hr1 ⊢
      exact ⟨⟨A1, c1, rfl, hr1⟩, hbel⟩

end Go.Proofs.Ytdhikpfppbcjkaa

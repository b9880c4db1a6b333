/-
  Contracts: the reference's trim, Less, digit; Cmp of both; fit of both.
-/
import Derived.Test.YtlmgdhdakeekkaaNatA
namespace Go.Proofs.Ytlmgdhdakeekkaa
open Go.RowKit Num

theorem map_take_snoc {xs : List Nat} {k : Nat} (h : k < xs.length) : xs.take k ++ [xs[k]] = xs.take (k + 1) := (List.take_succ_eq_append_getElem h).symm

set_option maxRecDepth 100000 in
theorem rtrim_any (A : Option Addr) (c : Nat) (xs : List Nat) (w : World) (h : Rd w A c xs) (hs : xs.length ≤ 1000000) :
   Calls Try.prog 70 #[.slice A xs.length c] w fun e w' => ∃ v, e = .returned v ∧ Own w' w.heap.size v (dig (val xs)) ∧ Below w.heap.size w w' := by
  go_enter Try.func70, Try.ntmps70
  go_wp2
  go_loop [3] (fun n => ∃ k : Nat, k ≤ xs.length ∧ n = .int .i64 k ∧ val (xs.take k) = val xs) (fun n => (intOf n).toNat)
  case atStart => exact ⟨xs.length, Nat.le_refl _, rfl, by rw [List.take_length]⟩
  case round =>
    obtain ⟨k, hk, rfl, hv⟩ := hrel
    have Hv := Lib.hid hv
    clear hv
    have Hend : ∀ (f : Fine (xs.take k)), dig (val xs) = xs.take k := fun f => trim_end h.ok Hv.out f
    have HE := Lib.hid Hend
    clear Hend
    by_cases hgo : ∃ j, k = j + 1 ∧ ∃ hj : j < xs.length, xs[j] = 0
    · obtain ⟨k, rfl, hkx, hz⟩ := hgo
      have hx : xs ≠ [] := by rintro rfl; simp at hk
      obtain ⟨b, o, rfl, hb, hc⟩ := h.at_ hx
      have h1 := hc k (by omega)
      clear hc
      have Hz := Lib.hid hz
      rw [hz] at h1
      clear hz
      go_wp2
      go_round
      case rel => exact ⟨k, by omega, by go_num, val_take_zero (by omega) Hz.out Hv.out⟩
      case measure => simp [intOf]
    · have hf : Fine (xs.take k) := by
        cases k with
        | zero => simp [Fine]
        | succ k => exact fine_take hk (fun hz => hgo ⟨k, rfl, hk, hz⟩)
      have hd := HE.out hf
      have HD := Lib.hid hd
      clear hd HE
      have h1 : ∀ j, k = j + 1 → ∃ b o, A = some ⟨b, o, none⟩ ∧ b < w.heap.size ∧ ∃ d : Nat, w.cell? ⟨b, o + j, none⟩ = some (.int .u32 d) ∧ ((d : Int) == 0) = false := by
        rintro j rfl
        obtain ⟨b, o, hA, hb, hc⟩ := h.at_ (by rintro rfl; simp at hk)
        exact ⟨b, o, hA, hb, xs[j], hc j hk, by simp; exact fun hz => hgo ⟨j, rfl, hk, hz⟩⟩
      have H1 := Lib.hid h1
      clear h1 hgo
      have hS : ∀ j (hj : j < k), ∃ b o, A = some ⟨b, o, none⟩ ∧ b < w.heap.size ∧ w.cell? ⟨b, o + j, none⟩ = some (.int .u32 (xs[j]'(by omega))) := by
        intro j hj
        obtain ⟨b, o, hA, hb, hc⟩ := h.at_ (by rintro rfl; simp at hk; omega)
        exact ⟨b, o, hA, hb, hc j (by omega)⟩
      have HS := Lib.hid hS
      clear hS
      rcases Nat.eq_zero_or_pos k with rfl | hkp
      · go_wp2
        refine wp_loop_rounds 1 ?_
        rw [rounds_succ]
        go_wp2
        go_ret
        refine ⟨_, rfl, ?_, Below.refl _ _⟩
        rw [HD.out]
        exact Own.nil _ _
      · obtain ⟨j, rfl⟩ : ∃ j, k = j + 1 := ⟨k - 1, by omega⟩
        obtain ⟨b, o, rfl, hb, d, hcd, hnz⟩ := H1.out j rfl
        clear H1 hkp
        go_wp2
        clear hcd hnz
        go_loopw [4, 5] (fun v i wr => ∃ k : Nat, k ≤ j + 1 ∧ i = .int .i64 k ∧ Own wr w.heap.size v (xs.take k) ∧ Below w.heap.size w wr) (fun _ i _ => j + 1 - (intOf i).toNat)
        case atStart => exact ⟨0, Nat.zero_le _, rfl, Own.nil _ _, Below.refl _ _⟩
        case round =>
          obtain ⟨q, hq, rfl, hown, hbel⟩ := hrel
          by_cases hlt : q < j + 1
          · obtain ⟨b', o', hA, _, hcell⟩ := HS.out q hlt
            injection hA with hA
            injection hA with hA1 hA2
            subst hA1 hA2
            have hcw : wr.cell? ⟨b, o + q, none⟩ = some (.int .u32 (xs[q]'(by omega))) := (hbel.cell (p := ⟨b, o + q, none⟩) hb).trans hcell
            clear hcell
            go_wp2_with (at_builtin; refine wp_app1 _ _ wr w.heap.size _ (xs.take q) (xs[q]'(by omega)) rfl hown hbel.size (by simp; omega) rfl rfl rfl rfl ?_; intro v' w' hown' _ hbel')
            go_roundw
            case rel => exact ⟨q + 1, by omega, by go_num, by rw [← map_take_snoc (by omega)]; exact hown', hbel.trans hbel'⟩
            case measure => simp [intOf]; omega
          · go_wp2
            go_ret
            have : q = j + 1 := by omega
            refine ⟨_, rfl, ?_, hbel⟩
            rw [HD.out, ← this]
            exact hown

end Go.Proofs.Ytlmgdhdakeekkaa

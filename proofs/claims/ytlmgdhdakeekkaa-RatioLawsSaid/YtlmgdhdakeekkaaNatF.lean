/-
  Contracts of Add and Sub of both.
-/
import Derived.Test.YtlmgdhdakeekkaaNatE
namespace Go.Proofs.Ytlmgdhdakeekkaa
open Go.RowKit Num

theorem sum_len {x y k : Nat} (hx : x < 4294967296 ^ k) (hy : y < 4294967296 ^ k) : (dig (x + y)).length ≤ k + 1 := by
  apply dig_length_le
  rw [Nat.pow_succ]
  generalize 4294967296 ^ k = P at hx hy ⊢
  omega
theorem subR_eq {xs ys : List Nat} (h1 : rightB xs = true) (h2 : rightB ys = true) (h : val ys ≤ val xs) : subR xs ys = (dig (val xs - val ys), 0) := by simp [subR, h1, h2, h]
theorem subR_no {xs ys : List Nat} (h : (rightB xs && rightB ys && decide (val ys ≤ val xs)) = false) : subR xs ys = ([], 2) := by unfold subR; rw [h]; rfl



set_option maxRecDepth 100000 in
set_option maxHeartbeats 1000000 in
theorem add_any (A B : Option Addr) (c d : Nat) (xs ys : List Nat) (w : World) (ha : Rd w A c xs) (hb : Rd w B d ys) :
   Calls Try.prog 49 #[.slice A xs.length c, .slice B ys.length d] w fun e w' => RetSE w w' e (addR xs ys) := by
  by_cases h1 : rightB xs = true
  · by_cases h2 : rightB ys = true
    · have hl1 := right_len h1
      have hl2 := right_len h2
      have HE := Lib.hid (addR_eq h1 h2)
      by_cases hsw : xs.length < ys.length
      · go_enter Try.func49, Try.ntmps49
        go_wp2_with (first
          | (go_at_call 53; refine (right_any _ _ _ _ (by first | exact ha | exact hb)).mono ?_; rintro e w' ⟨rfl, rfl⟩)
          | (at_make; refine wp_make0 _ _ _ (ys.length + 1) (by omega) (by omega) rfl rfl rfl rfl ?_; intro w1 hown1 hbel1))
        go_loopw [6, 7, 32] (fun v cv i wr => ∃ (k : Nat) (outs : List Nat) (cr : Nat), k ≤ ys.length ∧ i = .int .i64 k ∧ cv = .int .u32 cr ∧ cr ≤ 1 ∧ AddTo ys xs k outs cr ∧ Own wr w.heap.size v outs ∧ Below w.heap.size w wr) (fun _ _ i _ => ys.length - (intOf i).toNat)
        case atStart => exact ⟨0, [], 0, by omega, rfl, rfl, by omega, AddTo.zero _ _, hown1, hbel1⟩
        case round =>
          obtain ⟨k, outs, cr, hk, rfl, rfl, hcr, hadd, hown, hbel⟩ := hrel
          have hol : outs.length ≤ 1000000 := by have := hadd.2.1; omega
          have HA := Lib.hid hadd
          clear hadd hown1 hbel1
          by_cases hlt : k < ys.length
          · obtain ⟨b1, o1, rfl, hb1, hc1⟩ := hb.at_ (by rintro rfl; simp at hlt)
            have h1 : wr.cell? ⟨b1, o1 + k, none⟩ = some (.int .u32 (ys[k]'hlt)) := (hbel.cell (p := ⟨b1, o1 + k, none⟩) hb1).trans (hc1 k hlt)
            have hd1 := hb.ok.get hlt
            have HD1 := Lib.hid (at0_in hlt)
            clear hc1
            by_cases hlq : k < xs.length
            · obtain ⟨b2, o2, rfl, hb2, hc2⟩ := ha.at_ (by rintro rfl; simp at hlq)
              have h2 : wr.cell? ⟨b2, o2 + k, none⟩ = some (.int .u32 (xs[k]'hlq)) := (hbel.cell (p := ⟨b2, o2 + k, none⟩) hb2).trans (hc2 k hlq)
              have hd2 := ha.ok.get hlq
              have HD2 := Lib.hid (at0_in hlq)
              clear hc2
              go_wp2_with (first
                | (go_at_call 63; refine (add32_any _ _ _ _ (by omega) (by omega) (by omega) (by omega) (by omega) (by omega)).mono ?_; rintro e w' ⟨⟨s, q, rfl, hs, hq, hsum⟩, rfl⟩; have HS := Lib.hid hsum; clear hsum)
                | (at_builtin; refine wp_app1 _ _ _ w.heap.size _ outs s rfl hown hbel.size hol rfl rfl rfl rfl ?_; intro v' w' hown' _ hbel'))
              go_roundw
              case rel => exact ⟨k + 1, _, q, by omega, by go_num, rfl, hq, HA.out.step hs (by rw [HD1.out, HD2.out]; have := HS.out; omega), hown', hbel.trans hbel'⟩
              case measure => simp [intOf]; omega
            · have HD2 := Lib.hid (at0_out hlq)
              go_wp2_with (first
                | (go_at_call 63; refine (add32_any _ _ _ _ (by omega) (by omega) (by omega) (by omega) (by omega) (by omega)).mono ?_; rintro e w' ⟨⟨s, q, rfl, hs, hq, hsum⟩, rfl⟩; have HS := Lib.hid hsum; clear hsum)
                | (at_builtin; refine wp_app1 _ _ _ w.heap.size _ outs s rfl hown hbel.size hol rfl rfl rfl rfl ?_; intro v' w' hown' _ hbel'))
              go_roundw
              case rel => exact ⟨k + 1, _, q, by omega, by go_num, rfl, hq, HA.out.step hs (by rw [HD1.out, HD2.out]; have := HS.out; omega), hown', hbel.trans hbel'⟩
              case measure => simp [intOf]; omega
          · go_wp2_with (at_builtin; refine wp_app1 _ _ _ w.heap.size _ outs cr rfl hown hbel.size hol rfl rfl rfl rfl ?_; intro v' w' hown' _ hbel'; obtain ⟨zs, hz⟩ : ∃ zs, zs = outs ++ [cr] := ⟨_, rfl⟩; rw [← hz] at hown'; have HZ := Lib.hid hz; clear hz; obtain ⟨A', c', rfl, hr⟩ := hown'.rd (by rw [HZ.out]; exact HA.out.1.append (Ok.cons (by omega) Ok.nil)))
            refine (fit_any A' c' zs _ hr (by rw [HZ.out]; have := HA.out.2.1; simp; omega)).mono ?_
            rintro e w2 ⟨⟨A2, c2, rfl, hr2⟩, hb2⟩
            go_wp2
            go_ret2
            have hv := HA.out.last (by omega) (by omega)
            rw [← HZ.out] at hv
            rw [HE.out]
            have e1 : val zs = val xs + val ys := by rw [hv, Nat.add_comm]
            rw [← e1]
            exact ⟨⟨A2, c2, rfl, hr2⟩, (hbel.trans hbel').trans (hb2.mono (hbel.trans hbel').size)⟩
      · go_enter Try.func49, Try.ntmps49
        go_wp2_with (first
          | (go_at_call 53; refine (right_any _ _ _ _ (by first | exact ha | exact hb)).mono ?_; rintro e w' ⟨rfl, rfl⟩)
          | (at_make; refine wp_make0 _ _ _ (xs.length + 1) (by omega) (by omega) rfl rfl rfl rfl ?_; intro w1 hown1 hbel1))
        go_loopw [6, 7, 32] (fun v cv i wr => ∃ (k : Nat) (outs : List Nat) (cr : Nat), k ≤ xs.length ∧ i = .int .i64 k ∧ cv = .int .u32 cr ∧ cr ≤ 1 ∧ AddTo xs ys k outs cr ∧ Own wr w.heap.size v outs ∧ Below w.heap.size w wr) (fun _ _ i _ => xs.length - (intOf i).toNat)
        case atStart => exact ⟨0, [], 0, by omega, rfl, rfl, by omega, AddTo.zero _ _, hown1, hbel1⟩
        case round =>
          obtain ⟨k, outs, cr, hk, rfl, rfl, hcr, hadd, hown, hbel⟩ := hrel
          have hol : outs.length ≤ 1000000 := by have := hadd.2.1; omega
          have HA := Lib.hid hadd
          clear hadd hown1 hbel1
          by_cases hlt : k < xs.length
          · obtain ⟨b1, o1, rfl, hb1, hc1⟩ := ha.at_ (by rintro rfl; simp at hlt)
            have h1 : wr.cell? ⟨b1, o1 + k, none⟩ = some (.int .u32 (xs[k]'hlt)) := (hbel.cell (p := ⟨b1, o1 + k, none⟩) hb1).trans (hc1 k hlt)
            have hd1 := ha.ok.get hlt
            have HD1 := Lib.hid (at0_in hlt)
            clear hc1
            by_cases hlq : k < ys.length
            · obtain ⟨b2, o2, rfl, hb2, hc2⟩ := hb.at_ (by rintro rfl; simp at hlq)
              have h2 : wr.cell? ⟨b2, o2 + k, none⟩ = some (.int .u32 (ys[k]'hlq)) := (hbel.cell (p := ⟨b2, o2 + k, none⟩) hb2).trans (hc2 k hlq)
              have hd2 := hb.ok.get hlq
              have HD2 := Lib.hid (at0_in hlq)
              clear hc2
              go_wp2_with (first
                | (go_at_call 63; refine (add32_any _ _ _ _ (by omega) (by omega) (by omega) (by omega) (by omega) (by omega)).mono ?_; rintro e w' ⟨⟨s, q, rfl, hs, hq, hsum⟩, rfl⟩; have HS := Lib.hid hsum; clear hsum)
                | (at_builtin; refine wp_app1 _ _ _ w.heap.size _ outs s rfl hown hbel.size hol rfl rfl rfl rfl ?_; intro v' w' hown' _ hbel'))
              go_roundw
              case rel => exact ⟨k + 1, _, q, by omega, by go_num, rfl, hq, HA.out.step hs (by rw [HD1.out, HD2.out]; have := HS.out; omega), hown', hbel.trans hbel'⟩
              case measure => simp [intOf]; omega
            · have HD2 := Lib.hid (at0_out hlq)
              go_wp2_with (first
                | (go_at_call 63; refine (add32_any _ _ _ _ (by omega) (by omega) (by omega) (by omega) (by omega) (by omega)).mono ?_; rintro e w' ⟨⟨s, q, rfl, hs, hq, hsum⟩, rfl⟩; have HS := Lib.hid hsum; clear hsum)
                | (at_builtin; refine wp_app1 _ _ _ w.heap.size _ outs s rfl hown hbel.size hol rfl rfl rfl rfl ?_; intro v' w' hown' _ hbel'))
              go_roundw
              case rel => exact ⟨k + 1, _, q, by omega, by go_num, rfl, hq, HA.out.step hs (by rw [HD1.out, HD2.out]; have := HS.out; omega), hown', hbel.trans hbel'⟩
              case measure => simp [intOf]; omega
          · go_wp2_with (at_builtin; refine wp_app1 _ _ _ w.heap.size _ outs cr rfl hown hbel.size hol rfl rfl rfl rfl ?_; intro v' w' hown' _ hbel'; obtain ⟨zs, hz⟩ : ∃ zs, zs = outs ++ [cr] := ⟨_, rfl⟩; rw [← hz] at hown'; have HZ := Lib.hid hz; clear hz; obtain ⟨A', c', rfl, hr⟩ := hown'.rd (by rw [HZ.out]; exact HA.out.1.append (Ok.cons (by omega) Ok.nil)))
            refine (fit_any A' c' zs _ hr (by rw [HZ.out]; have := HA.out.2.1; simp; omega)).mono ?_
            rintro e w2 ⟨⟨A2, c2, rfl, hr2⟩, hb2⟩
            go_wp2
            go_ret2
            have hv := HA.out.last (by omega) (by omega)
            rw [← HZ.out] at hv
            rw [HE.out]
            have e1 : val zs = val xs + val ys := by rw [hv]
            rw [← e1]
            exact ⟨⟨A2, c2, rfl, hr2⟩, (hbel.trans hbel').trans (hb2.mono (hbel.trans hbel').size)⟩
    · have h2' : rightB ys = false := by simpa using h2
      clear h2
      have HE := Lib.hid (addR_no (xs := xs) (ys := ys) (by rw [h2']; simp))
      go_enter Try.func49, Try.ntmps49
      go_wp2_with (go_at_call 53; refine (right_any _ _ _ _ (by first | exact ha | exact hb)).mono ?_; rintro e w' ⟨rfl, rfl⟩)
      go_ret2
      rw [HE.out]
      exact ⟨⟨none, 0, rfl, Rd.nil⟩, Below.refl _ _⟩
  · have h1' : rightB xs = false := by simpa using h1
    clear h1
    have HE := Lib.hid (addR_no (xs := xs) (ys := ys) (by rw [h1']; simp))
    go_enter Try.func49, Try.ntmps49
    go_wp2_with (go_at_call 53; refine (right_any _ _ _ _ (by first | exact ha | exact hb)).mono ?_; rintro e w' ⟨rfl, rfl⟩)
    go_ret2
    rw [HE.out]
    exact ⟨⟨none, 0, rfl, Rd.nil⟩, Below.refl _ _⟩


theorem cmpN_neg {m n : Nat} : ((cmpN m n) < 0) ↔ m < n := by
  unfold cmpN
  split
  · simp [*]
  · split <;> simp <;> omega
theorem cmpN_neg_b {m n : Nat} (h : ¬ m < n) : 0 ≤ cmpN m n := by
  unfold cmpN
  rw [if_neg h]
  split <;> simp
theorem cmpN_pos_b {m n : Nat} (h : m < n) : cmpN m n < 0 := by
  unfold cmpN
  rw [if_pos h]
  decide

set_option maxRecDepth 100000 in
set_option maxHeartbeats 1000000 in
theorem sub_any (A B : Option Addr) (c d : Nat) (xs ys : List Nat) (w : World) (ha : Rd w A c xs) (hb : Rd w B d ys) :
   Calls Try.prog 50 #[.slice A xs.length c, .slice B ys.length d] w fun e w' => RetSE w w' e (subR xs ys) := by
  by_cases h1 : rightB xs = true
  · by_cases h2 : rightB ys = true
    · have hl1 := right_len h1
      have hl2 := right_len h2
      have hd1 := right_dig ha.ok h1
      have hd2 := right_dig hb.ok h2
      have HO := fun w' ha' hb' => order_any A B c d (val xs) (val ys) w' ha' hb' (by rw [hd1]; omega) (by rw [hd2]; omega)
      rw [hd1, hd2] at HO
      have HO := Lib.hid HO
      by_cases hlt : val xs < val ys
      · have HE := Lib.hid (subR_no (xs := xs) (ys := ys) (by rw [h1, h2, decide_eq_false (by omega)]; rfl))
        have hn := cmpN_pos_b hlt
        clear hd1 hd2 hlt
        go_enter Try.func50, Try.ntmps50
        go_wp2_with (first
          | (go_at_call 53; refine (right_any _ _ _ _ (by first | exact ha | exact hb)).mono ?_; rintro e w' ⟨rfl, rfl⟩)
          | (go_at_call 59; refine (HO.out _ ha hb).mono ?_; rintro e w' ⟨rfl, k, rfl⟩))
        go_ret2
        rw [HE.out]
        exact ⟨⟨none, 0, rfl, Rd.nil⟩, (Read.refl w).drewN k |>.below _⟩
      · have HE := Lib.hid (subR_eq h1 h2 (by omega))
        have hn := cmpN_neg_b hlt
        have hlen : ys.length ≤ xs.length := by rw [← hd1, ← hd2]; exact dig_len_mono (by omega)
        have hge : val ys ≤ val xs := by omega
        clear hd1 hd2 hlt
        go_enter Try.func50, Try.ntmps50
        go_wp2_with (first
          | (go_at_call 53; refine (right_any _ _ _ _ (by first | exact ha | exact hb)).mono ?_; rintro e w' ⟨rfl, rfl⟩)
          | (go_at_call 59; refine (HO.out _ ha hb).mono ?_; rintro e w' ⟨rfl, q0, rfl⟩)
          | (at_make; refine wp_make0 _ _ _ xs.length (by omega) (by omega) rfl rfl rfl rfl ?_; intro w1 hown1 hbel1))
        have hbel2 : Below w.heap.size w w1 := ((Read.refl w).drewN q0 |>.below _).trans hbel1
        go_loopw [6, 7, 30] (fun v cv i wr => ∃ (k : Nat) (outs : List Nat) (cr : Nat), k ≤ xs.length ∧ i = .int .i64 k ∧ cv = .int .u32 cr ∧ cr ≤ 1 ∧ SubTo xs ys k outs cr ∧ Own wr w.heap.size v outs ∧ Below w.heap.size w wr) (fun _ _ i _ => xs.length - (intOf i).toNat)
        case atStart => exact ⟨0, [], 0, by omega, rfl, rfl, by omega, SubTo.zero _ _, hown1, hbel2⟩
        case round =>
          obtain ⟨k, outs, cr, hk, rfl, rfl, hcr, hadd, hown, hbel⟩ := hrel
          have hol : outs.length ≤ 1000000 := by have := hadd.2.1; omega
          have HA := Lib.hid hadd
          clear hadd hown1 hbel1 hbel2
          by_cases hlt : k < xs.length
          · obtain ⟨b1, o1, rfl, hb1, hc1⟩ := ha.at_ (by rintro rfl; simp at hlt)
            have h1 : wr.cell? ⟨b1, o1 + k, none⟩ = some (.int .u32 (xs[k]'hlt)) := (hbel.cell (p := ⟨b1, o1 + k, none⟩) hb1).trans (hc1 k hlt)
            have hd1 := ha.ok.get hlt
            have HD1 := Lib.hid (at0_in hlt)
            clear hc1
            by_cases hlq : k < ys.length
            · obtain ⟨b2, o2, rfl, hb2, hc2⟩ := hb.at_ (by rintro rfl; simp at hlq)
              have h2 : wr.cell? ⟨b2, o2 + k, none⟩ = some (.int .u32 (ys[k]'hlq)) := (hbel.cell (p := ⟨b2, o2 + k, none⟩) hb2).trans (hc2 k hlq)
              have hd2 := hb.ok.get hlq
              have HD2 := Lib.hid (at0_in hlq)
              clear hc2
              go_wp2_with (first
                | (go_at_call 65; refine (sub32_any _ _ _ _ (by omega) (by omega) (by omega) (by omega) (by omega) (by omega)).mono ?_; rintro e w' ⟨⟨s, q, rfl, hs, hq, hsum⟩, rfl⟩; have HS := Lib.hid hsum; clear hsum)
                | (at_builtin; refine wp_app1 _ _ _ w.heap.size _ outs s rfl hown hbel.size hol rfl rfl rfl rfl ?_; intro v' w' hown' _ hbel'))
              go_roundw
              case rel => exact ⟨k + 1, _, q, by omega, by go_num, rfl, hq, HA.out.step hs (by rw [HD1.out, HD2.out]; have := HS.out; omega), hown', hbel.trans hbel'⟩
              case measure => simp [intOf]; omega
            · have HD2 := Lib.hid (at0_out hlq)
              go_wp2_with (first
                | (go_at_call 65; refine (sub32_any _ _ _ _ (by omega) (by omega) (by omega) (by omega) (by omega) (by omega)).mono ?_; rintro e w' ⟨⟨s, q, rfl, hs, hq, hsum⟩, rfl⟩; have HS := Lib.hid hsum; clear hsum)
                | (at_builtin; refine wp_app1 _ _ _ w.heap.size _ outs s rfl hown hbel.size hol rfl rfl rfl rfl ?_; intro v' w' hown' _ hbel'))
              go_roundw
              case rel => exact ⟨k + 1, _, q, by omega, by go_num, rfl, hq, HA.out.step hs (by rw [HD1.out, HD2.out]; have := HS.out; omega), hown', hbel.trans hbel'⟩
              case measure => simp [intOf]; omega
          · obtain ⟨A', c', rfl, hr⟩ := hown.rd HA.out.1
            go_wp2_with (go_at_call 64; refine (fit_any A' c' outs _ hr hol).mono ?_; rintro e w2 ⟨⟨A2, c2, rfl, hr2⟩, hb2⟩)
            go_ret2
            have hv := HA.out.done (by omega) (by omega) (by omega)
            rw [hv] at hr2 ⊢
            have HF : fitR (val xs - val ys) = (dig (val xs - val ys), 0) := by
              have : (dig (val xs - val ys)).length ≤ 256 := by
                have h3 := dig_len_mono (m := val xs - val ys) (n := val xs) (by omega)
                have h4 := dig_len_le xs ha.ok
                omega
              simp [fitR, this]
            rw [HF] at hr2 ⊢
            rw [HE.out]
            exact ⟨⟨A2, c2, rfl, hr2⟩, hbel.trans (hb2.mono hbel.size)⟩
    · have h2' : rightB ys = false := by simpa using h2
      clear h2
      have HE := Lib.hid (subR_no (xs := xs) (ys := ys) (by rw [h2']; simp))
      go_enter Try.func50, Try.ntmps50
      go_wp2_with (go_at_call 53; refine (right_any _ _ _ _ (by first | exact ha | exact hb)).mono ?_; rintro e w' ⟨rfl, rfl⟩)
      go_ret2
      rw [HE.out]
      exact ⟨⟨none, 0, rfl, Rd.nil⟩, Below.refl _ _⟩
  · have h1' : rightB xs = false := by simpa using h1
    clear h1
    have HE := Lib.hid (subR_no (xs := xs) (ys := ys) (by rw [h1']; simp))
    go_enter Try.func50, Try.ntmps50
    go_wp2_with (go_at_call 53; refine (right_any _ _ _ _ (by first | exact ha | exact hb)).mono ?_; rintro e w' ⟨rfl, rfl⟩)
    go_ret2
    rw [HE.out]
    exact ⟨⟨none, 0, rfl, Rd.nil⟩, Below.refl _ _⟩


end Go.Proofs.Ytlmgdhdakeekkaa

/-
  ParseBoth, ParseBlank.
-/
import Derived.Test.YtpfhgkielakmoaaDoorPq
import Derived.Test.YtpfhgkielakmoaaDoorPu
import Derived.Test.YtpfhgkielakmoaaDoorDab
set_option linter.unusedSimpArgs false
set_option linter.unusedVariables false
namespace Go.Proofs.YtpfhgkielakmoaaDoor
open Go.RowKit Num

theorem wt_mem {t : Tok} : ∀ {l : List Tok}, t ∈ l → t.t.length ≤ wt l
  | x :: l, h => by
    rw [wt_cons]
    rcases List.mem_cons.1 h with rfl | h
    · omega
    · have := wt_mem h
      omega
theorem row_all {ty te : TypeId} {F : Nat → Prop} {w : World} {v : Value} {l : List It} (h : (layI ty te).row.P F w v l) : (layI ty te).row.P (fun _ => True) w v l := ((layI ty te).row).mono (fun _ _ => trivial) h
theorem map_low {l : List It} (h : ∀ x ∈ l, LowI x) : ∀ x ∈ l.map It.flat, LowI x := by
  rw [flat_all h]
  exact h
set_option maxRecDepth 100000 in
set_option maxHeartbeats 8000000 in
theorem parseBoth_use (w : World) (hE : ErrVars w) (a : ByteArray) (ha : a.size ≤ maxLen) (b : ByteArray) (hb : b.size ≤ maxLen) : Calls Tryd.prog 4 #[.string a, .string b] w fun e w' => e = .returned (.bool true) ∧ Below w.heap.size w w' := by
  unfold maxLen at ha hb
  by_cases h1 : a.size ≤ 1800
  · have d1 : decide ((1800 : Int) < (a.size : Int)) = false := decide_eq_false (by omega)
    by_cases h2 : b.size ≤ 1800
    · have d2 : decide ((1800 : Int) < (b.size : Int)) = false := decide_eq_false (by omega)
      have hp := @both_items a.data.toList b.data.toList (by simpa using h1) (by simpa using h2)
      have hj : (a ++ (⟨#[10]⟩ : ByteArray) ++ b).data.toList = a.data.toList ++ 10 :: b.data.toList := by simp [ByteArray.data_append]
      have hz : (a ++ (⟨#[10]⟩ : ByteArray) ++ b).size ≤ 1000000 := by
        rw [ByteArray.size_append, ByteArray.size_append]
        have : (⟨#[10]⟩ : ByteArray).size = 1 := rfl
        omega
      rw [← hj] at hp
      have hla := textP_low a.data.toList
      have hlb := textP_low b.data.toList
      have hna := textP_len a.data.toList
      have hnb := textP_len b.data.toList
      have HP := Lib.hid hp
      have HA := Lib.hid hla
      have HB := Lib.hid hlb
      clear hp hj hla hlb
      go_enter Tryd.func4, Tryd.ntmps4
      go_wp2_with fail
      refine (alive6_any w hE).mono ?_
      rintro e w1 ⟨rfl, q1⟩
      have hE1 := hE.below q1
      clear hE
      go_wp2_with fail
      refine (ptext_any a w1 hE1 (by omega)).mono ?_
      rintro e w2 ⟨A, c, rfl, hA, q2⟩
      have hE2 := hE1.below q2
      clear hE1
      go_wp2_with fail
      refine (ptext_any b w2 hE2 (by omega)).mono ?_
      rintro e w3 ⟨B, d, rfl, hB, q3⟩
      have hE3 := hE2.below q3
      clear hE2
      have hA3 := row_all (Dt.below _ hA q3 (Nat.le_refl _))
      have hB3 := row_all hB
      have q := below_trans (below_trans q1 q2) q3
      clear hA hB q1 q2 q3
      generalize textP a.data.toList = ra at *
      generalize textP b.data.toList = rb at *
      obtain ⟨la, pa, ea⟩ := ra
      obtain ⟨lb, pb, eb⟩ := rb
      dsimp only at *
      by_cases h5 : ea = 0
      · subst h5
        by_cases h6 : eb = 0
        · subst h6
          have hp := HP.out rfl rfl
          have HQ := Lib.hid hp
          clear HP hp
          go_wp2_with fail
          refine (ptext_any (a ++ (⟨#[10]⟩ : ByteArray) ++ b) w3 hE3 hz).mono ?_
          rintro e w4 ⟨C, f, rfl, hC, q4⟩
          have hq := HQ.out
          generalize textP (a ++ (⟨#[10]⟩ : ByteArray) ++ b).data.toList = rc at *
          subst hq
          dsimp only at *
          have hA4 := Dt.below _ hA3 q4 (Nat.le_refl _)
          have hB4 := Dt.below _ hB3 q4 (Nat.le_refl _)
          have hC4 := row_all hC
          have hq4 := below_trans q q4
          have hlc : ∀ x ∈ la ++ lb, LowI x := fun x hx => (List.mem_append.1 hx).elim (HA.out x) (HB.out x)
          have hnc : (la ++ lb).length ≤ 1024 := by rw [List.length_append]; omega
          have HC := Lib.hid hlc
          have HN := Lib.hid hnc
          clear hC hA3 hB3 q q4 hE3 hlc hnc HQ
          generalize hlcE : la ++ lb = lc at *
          have HLC := Lib.hid hlcE
          clear hlcE
          go_wp2_with fail
          refine (ours_items C f lc w4 w4 hC4 (Below.refl _ _) (by have := HN.out; omega) (LowI.few HC.out)).mono ?_
          rintro e w5 ⟨⟨v5, rfl, o5⟩, q5⟩
          rw [flat_all HC.out] at o5
          go_wp2_with fail
          refine (ours_items A c la w4 w5 hA4 q5 (by omega) (LowI.few HA.out)).mono ?_
          rintro e w6 ⟨⟨v6, rfl, o6⟩, q6⟩
          rw [flat_all HA.out] at o6
          have q56 := below_trans q5 q6
          go_wp2_with fail
          refine (ours_items B d lb w4 w6 hB4 q56 (by omega) (LowI.few HB.out)).mono ?_
          rintro e w7 ⟨⟨v7, rfl, o7⟩, q7⟩
          rw [flat_all HB.out] at o7
          obtain ⟨A5, c5, hv5⟩ := Lay.own_len o5
          have hs56 : w5.heap.size ≤ w6.heap.size := q6.size
          have hs57 : w5.heap.size ≤ w7.heap.size := Nat.le_trans q6.size q7.size
          have o6' := Lay.own_below o6 q7
          have hlt6 : ∀ g, v6.ownBlock = some g → g < w6.heap.size := fun g hg => (Lay.own_lt o6 g hg).2
          have H6 := Lib.hid hlt6
          have hl1 : la.length ≤ 1000000 := by omega
          have hl2 : lb.length ≤ 1000000 := by omega
          obtain ⟨A6, c6, hv6⟩ := Lay.own_len o6
          obtain ⟨A7, c7, hv7⟩ := Lay.own_len o7
          subst hv5 hv6 hv7
          clear hlt6
          go_wp2_with (at_builtin; refine Lay.wp_app2 (layIat w4 (fun _ => True) 60 79) _ _ w7 w5.heap.size w6.heap.size _ _ la lb Tryd.underlying32 info_ritem rfl (Nat.zero_lt_succ _) (by decide) o6' o7 hs56 H6.out hs57 hl1 hl2 rfl rfl rfl rfl ?_; intro v8 w8 o8 g8 b8)
          rw [HLC.out] at o8
          obtain ⟨A8, c8, hv8⟩ := Lay.own_len o8
          subst hv8
          have b58 := (below_trans q6 q7).trans b8
          have r5 := row_now (Lay.own_row (Lay.own_below o5 b58)) (below_trans q5 b58)
          have r8 := row_now (Lay.own_row o8) (below_trans q5 b58)
          have hend := below_trans hq4 (below_trans q5 b58)
          have hitB := itsB_refl HC.out
          clear o5 o6 o7 o6' o8 g8 b8 q5 q6 q7 q56
          refine (rsameI_any A5 A8 c5 c8 lc lc w8 r5 r8 (by have := HN.out; omega) (LowI.few3 HC.out)).mono ?_
          rintro e w9 ⟨rfl, q9⟩
          rw [hitB]
          clear hitB
          go_wp2_with fail
          go_ret
          exact ⟨rfl, below_trans hend q9⟩
        · have d3 : (eb != 0) = true := ne_bool h6
          clear HP h6
          go_wp2_with fail
          go_ret
          exact ⟨rfl, q⟩
      · have d3 : (ea != 0) = true := ne_bool h5
        clear HP h5
        go_wp2_with fail
        go_ret
        exact ⟨rfl, q⟩
    · have d2 : decide ((1800 : Int) < (b.size : Int)) = true := decide_eq_true (by omega)
      go_enter Tryd.func4, Tryd.ntmps4
      go_wp2_with fail
      refine (alive6_any w hE).mono ?_
      rintro e w1 ⟨rfl, q1⟩
      go_wp2_with fail
      go_ret
      exact ⟨rfl, q1⟩
  · have d1 : decide ((1800 : Int) < (a.size : Int)) = true := decide_eq_true (by omega)
    go_enter Tryd.func4, Tryd.ntmps4
    go_wp2_with fail
    refine (alive6_any w hE).mono ?_
    rintro e w1 ⟨rfl, q1⟩
    go_wp2_with fail
    go_ret
    exact ⟨rfl, q1⟩
set_option maxRecDepth 100000 in
set_option maxHeartbeats 8000000 in
theorem parseBlank_use (w : World) (hE : ErrVars w) (s : ByteArray) (hs : s.size ≤ maxLen) : Calls Tryd.prog 6 #[.string s] w fun e w' => e = .returned (.bool true) ∧ Below w.heap.size w w' := by
  unfold maxLen at hs
  by_cases h1 : s.size ≤ 1800
  · have d1 : decide ((1800 : Int) < (s.size : Int)) = false := decide_eq_false (by omega)
    have hp := @blank_items s.data.toList (by simpa using h1)
    have hlow := textP_low s.data.toList
    have hlen := textP_len s.data.toList
    have hwt := splitR_wt_le s.data.toList
    have hgt := wt_ge (splitR_wt s.data.toList)
    have hjw := joinR_wt (splitR s.data.toList).1
    have hsz : s.data.toList.length = s.size := by simp
    have hone : ∀ t ∈ (splitR s.data.toList).1, t.t.length ≤ 10000 := fun t ht => by
      have : t.t.length ≤ wt (splitR s.data.toList).1 := wt_mem ht
      omega
    have hbad : (splitR s.data.toList).2.2 ≠ 0 → (textP s.data.toList).2.2 = (splitR s.data.toList).2.2 := fun h => by rw [textP_bad h]
    have HP := Lib.hid hp
    have HL := Lib.hid hlow
    have HO := Lib.hid hone
    have HB := Lib.hid hbad
    clear hp hlow hone hbad
    go_enter Tryd.func6, Tryd.ntmps6
    go_wp2_with fail
    refine (alive6_any w hE).mono ?_
    rintro e w1 ⟨rfl, q1⟩
    have hE1 := hE.below q1
    clear hE
    go_wp2_with fail
    refine (ptext_any s w1 hE1 (by omega)).mono ?_
    rintro e w2 ⟨A, c, rfl, hA, q2⟩
    have hE2 := hE1.below q2
    clear hE1
    go_wp2_with fail
    refine (split_any s w2 hE2).mono ?_
    rintro e w3 h3
    obtain ⟨B, d, rfl, hB, q3⟩ := h3.rd
    have hE3 := hE2.below q3
    have hA3 := row_all (Dt.below _ hA q3 (Nat.le_refl _))
    clear h3 hA hE2
    have q := below_trans (below_trans q1 q2) q3
    clear q1 q2 q3
    generalize textP s.data.toList = R at *
    generalize splitR s.data.toList = S at *
    obtain ⟨xs, at_, er⟩ := R
    obtain ⟨l, p, ef⟩ := S
    dsimp only at *
    by_cases h6 : ef = 0
    · subst h6
      have hp := HP.out rfl
      have HQ := Lib.hid hp
      clear HP HB hp
      go_wp2_with fail
      refine (ljoin_big B d l w3 hB (by omega) HO.out).mono ?_
      rintro e w4 ⟨rfl, q4⟩
      have hE4 := hE3.below q4
      clear hE3
      go_wp2_with fail
      refine (ptext_any _ w4 hE4 (by show (joinR (l.map (·.t))).toArray.size ≤ 1000000; simp; omega)).mono ?_
      rintro e w5 ⟨C, f, rfl, hC, q5⟩
      obtain ⟨hq1, hq2⟩ := HQ.out
      clear HQ
      replace hC : LI.row.P (since w4.heap.size w5) w5 (.slice C (textP (joinR (l.map (·.t)))).1.length f) (textP (joinR (l.map (·.t)))).1 := hC
      generalize hRR : textP ((⟨(joinR (l.map (·.t))).toArray⟩ : ByteArray).data.toList) = RR at *
      have hRR2 : textP (joinR (l.map (·.t))) = RR := hRR
      try rw [hRR2] at hC
      try rw [hRR2] at hq1
      try rw [hRR2] at hq2
      obtain ⟨ys, at2, er2⟩ := RR
      dsimp only at *
      subst hq1 hq2
      have hC5 := row_all hC
      have hA5 := Dt.below _ (Dt.below _ hA3 q4 (Nat.le_refl _)) q5 (Nat.le_refl _)
      have hq := below_trans (below_trans q q4) q5
      clear hRR hRR2 hC hA3 q q4 q5
      go_wp2_with fail
      refine (ours_items A c xs w5 w5 hA5 (Below.refl _ _) (by omega) (LowI.few HL.out)).mono ?_
      rintro e w6 ⟨⟨v6, rfl, o6⟩, q6⟩
      rw [flat_all HL.out] at o6
      go_wp2_with fail
      refine (ours_items C f xs w5 w6 hC5 q6 (by omega) (LowI.few HL.out)).mono ?_
      rintro e w7 ⟨⟨v7, rfl, o7⟩, q7⟩
      rw [flat_all HL.out] at o7
      obtain ⟨A6, c6, hv6⟩ := Lay.own_len o6
      obtain ⟨A7, c7, hv7⟩ := Lay.own_len o7
      subst hv6 hv7
      have r6 := row_now (Lay.own_row (Lay.own_below o6 q7)) (below_trans q6 q7)
      have r7 := row_now (Lay.own_row o7) (below_trans q6 q7)
      have hend := below_trans hq (below_trans q6 q7)
      clear o6 o7 q6 q7 hq hA5 hC5
      go_wp2_with fail
      refine (rsameI_any A6 A7 c6 c7 xs xs w7 r6 r7 (by omega) (LowI.few3 HL.out)).mono ?_
      rintro e w8 ⟨rfl, q8⟩
      rw [itsB_refl HL.out]
      go_wp2_with fail
      go_ret
      exact ⟨rfl, below_trans hend q8⟩
    · have d2 : (ef != 0) = true := ne_bool h6
      obtain rfl := HB.out h6
      clear HP HB h6
      go_wp2_with fail
      go_ret
      exact ⟨rfl, q⟩
  · have d1 : decide ((1800 : Int) < (s.size : Int)) = true := decide_eq_true (by omega)
    go_enter Tryd.func6, Tryd.ntmps6
    go_wp2_with fail
    refine (alive6_any w hE).mono ?_
    rintro e w1 ⟨rfl, q1⟩
    go_wp2_with fail
    go_ret
    exact ⟨rfl, q1⟩
end Go.Proofs.YtpfhgkielakmoaaDoor

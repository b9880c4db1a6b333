/-
  Contract of touchstoneref03.Parse.
-/
import Derived.Test.YtmhjjjffgpdolaaRefP
set_option linter.unusedSimpArgs false
set_option linter.unusedVariables false
namespace Go.Proofs.Ytmhjjjffgpdolaa
open Go.RowKit Num

theorem rparse_eq {s : ByteArray} {r : List Nat × Int} {w : World} (h : parseR s.data.toList = r) (hs : s.size ≤ 1000000) : Calls Try.prog 68 #[.string s] w fun e w' => RetSE w w' e r := by
  subst h
  exact rparse_any s w hs
set_option maxRecDepth 100000 in
set_option maxHeartbeats 2000000 in
theorem rsparse_any (s : ByteArray) (w : World) (hs : s.size ≤ 1000000) : Calls Try.prog 42 #[.string s] w fun e w' => RetI w w' e (sparseR s.data.toList) := by
  have hb0 := below_alloc1 w (.cells #[.bool false, .slice none 0 0] 24)
  have k1 := Blk.new w 24 #[.bool false, .slice none 0 0]
  by_cases hp : 0 < s.size
  · have hhd : s.data.toList.head? = some s[0] := by
      rw [List.head?_eq_getElem?]
      simp [hp]
      rfl
    by_cases h2 : s[0] = 45
    · have h3 : ((s[0].toNat : Int) == 45) = true := by rw [h2]; rfl
      have hh : s.data.toList.head? = some 45 := by rw [hhd, h2]
      have HX : Hid ((s.extract 1 s.size).size ≤ 1000000) := by unfold Hid; simp; omega
      have ht : (s.extract 1 s.size).data.toList = s.data.toList.tail := by rw [Lib.extract_data, List.take_of_length_le (by rw [List.length_drop, ← Lib.size_eq]; exact Nat.le_refl _), List.drop_one]
      clear h2 hhd
      rcases parseR_cases (s.extract 1 s.size).data.toList with ⟨k, hk, hk0⟩ | ⟨hk, _, hlen⟩
      · have HK := Lib.hid hk
        have HE := Lib.hid (sparseR_bad hh (ht ▸ hk) hk0)
        clear hk hh ht
        go_enter Try.func42, Try.ntmps42
        go_wp2_with fail
        refine (rparse_eq (s := s.extract 1 s.size) HK.out (by first | exact hs | exact HX.out)).mono ?_
        rintro e w2 ⟨⟨A2, c2, rfl, hr2⟩, hb2⟩
        have k2 := k1.below hb2 (Nat.le_refl _)
        have hbel := below_trans hb0 hb2
        clear hb2 k1 hb0
        go_wp2_with ((with_reducible show wpList _ _ _ (Oper.mk none (Op.store _ _ _) _ _ _ _ :: _) _ _); refine wp_put (o := ⟨none, .store _ _ _, _, _, _, _⟩) _ _ k2 rfl rfl rfl rfl info_rint rfl rfl ?_; intro w5 i5 g5; obtain ⟨v5, v6, v7, v8⟩ := i5.both)
        rw [HE.out]
        exact bodyPost_ret (v := .tuple #[iv false none 0 0, .int .i64 k]) (by simp [results, Try.results42, go_sem, v5, v6]) rfl ⟨⟨none, 0, rfl, Rd.nil⟩, below_grown hbel g5 hbel.size (Nat.le_refl _)⟩
      · have HK := Lib.hid hk
        generalize numOf (s.extract 1 s.size).data.toList = q at *
        by_cases hq : q = 0
        · subst hq
          have HE := Lib.hid (sparseR_nil hh (ht ▸ hk))
          have hq0 : (dig 0).length ≤ 0 := Nat.le_refl _
          clear hk hh ht
          go_enter Try.func42, Try.ntmps42
          go_wp2_with fail
          refine (rparse_eq (s := s.extract 1 s.size) HK.out (by first | exact hs | exact HX.out)).mono ?_
          rintro e w2 ⟨⟨A2, c2, rfl, hr2⟩, hb2⟩
          have k2 := k1.below hb2 (Nat.le_refl _)
          have hbel := below_trans hb0 hb2
          clear hb2 k1 hb0
          go_wp2_with ((with_reducible show wpList _ _ _ (Oper.mk none (Op.store _ _ _) _ _ _ _ :: _) _ _); refine wp_put (o := ⟨none, .store _ _ _, _, _, _, _⟩) _ _ k2 rfl rfl rfl rfl info_rint rfl rfl ?_; intro w5 i5 g5; obtain ⟨v5, v6, v7, v8⟩ := i5.both)
          rw [HE.out]
          exact bodyPost_ret (v := .tuple #[iv false none 0 0, .int .i64 5]) (by simp [results, Try.results42, go_sem, v5, v6]) rfl ⟨⟨none, 0, rfl, Rd.nil⟩, below_grown hbel g5 hbel.size (Nat.le_refl _)⟩
        · have HE := Lib.hid (sparseR_neg hh (ht ▸ hk) (fun e => hq (dig_eq_nil.1 e)))
          have hq0 : 0 < (dig q).length := dig_len_pos.2 (by omega)
          have hq1 : (((dig q).length : Int) == 0) = false := beq_eq_false_iff_ne.2 (by omega)
          have HQ : Hid (decide (dig q ≠ []) = true) := decide_eq_true (fun e => hq (dig_eq_nil.1 e))
          clear hk hh ht hq
          go_enter Try.func42, Try.ntmps42
          go_wp2_with fail
          refine (rparse_eq (s := s.extract 1 s.size) HK.out (by first | exact hs | exact HX.out)).mono ?_
          rintro e w2 ⟨⟨A2, c2, rfl, hr2⟩, hb2⟩
          have k2 := k1.below hb2 (Nat.le_refl _)
          have hbel := below_trans hb0 hb2
          clear hb2 k1 hb0
          go_wp2_with fail
          refine (rmade_any true A2 c2 (dig q) w2 hr2).mono ?_
          try rw [HQ.out]
          rintro e w3 ⟨rfl, hb3⟩
          have i3 := k2.below hb3 (Nat.le_refl _)
          have hr3 := hr2.below hb3 (Nat.le_refl _)
          have hbel3 := below_trans hbel hb3
          go_wp2_with ((with_reducible show wpList _ _ _ (Oper.mk none (Op.store _ _ _) _ _ _ _ :: _) _ _); refine wp_put (o := ⟨none, .store _ _ _, _, _, _, _⟩) _ _ i3 rfl rfl rfl rfl info_rint rfl rfl ?_; intro w5 i5 g5; obtain ⟨v5, v6, v7, v8⟩ := i5.both)
          rw [HE.out]
          exact bodyPost_ret (v := .tuple #[iv true A2 ((dig q) : List Nat).length c2, .int .i64 0]) (by simp [results, Try.results42, go_sem, v5, v6]) rfl ⟨⟨A2, c2, rfl, hr3.turn g5 i3.ib⟩, below_grown hbel3 g5 hbel3.size (Nat.le_refl _)⟩
    · have h3 : ((s[0].toNat : Int) == 45) = false := by
        refine beq_eq_false_iff_ne.2 (fun e => h2 ?_)
        have : s[0].toNat = 45 := by exact_mod_cast e
        exact UInt8.toNat_inj.1 (by rw [this]; rfl)
      have hh : s.data.toList.head? ≠ some 45 := by rw [hhd]; intro e; exact h2 (Option.some.inj e)
      clear h2 hhd
      rcases parseR_cases s.data.toList with ⟨k, hk, hk0⟩ | ⟨hk, _, hlen⟩
      · have HK := Lib.hid hk
        have HE : Hid (sparseR s.data.toList = (false, [], k)) := by unfold Hid; rw [sparseR_plus hh, hk]
        clear hk hh
        go_enter Try.func42, Try.ntmps42
        go_wp2_with fail
        refine (rparse_eq (s := s) HK.out (by first | exact hs | exact HX.out)).mono ?_
        rintro e w2 ⟨⟨A2, c2, rfl, hr2⟩, hb2⟩
        have k2 := k1.below hb2 (Nat.le_refl _)
        have hbel := below_trans hb0 hb2
        clear hb2 k1 hb0
        go_wp2_with ((with_reducible show wpList _ _ _ (Oper.mk none (Op.store _ _ _) _ _ _ _ :: _) _ _); refine wp_put (o := ⟨none, .store _ _ _, _, _, _, _⟩) _ _ k2 rfl rfl rfl rfl info_rint rfl rfl ?_; intro w5 i5 g5; obtain ⟨v5, v6, v7, v8⟩ := i5.both)
        rw [HE.out]
        exact bodyPost_ret (v := .tuple #[iv false none 0 0, .int .i64 k]) (by simp [results, Try.results42, go_sem, v5, v6]) rfl ⟨⟨none, 0, rfl, Rd.nil⟩, below_grown hbel g5 hbel.size (Nat.le_refl _)⟩
      · have HK := Lib.hid hk
        have HE : Hid (sparseR s.data.toList = (false, dig (numOf s.data.toList), 0)) := by unfold Hid; rw [sparseR_plus hh, hk]
        clear hk hh
        go_enter Try.func42, Try.ntmps42
        go_wp2_with fail
        refine (rparse_eq (s := s) HK.out (by first | exact hs | exact HX.out)).mono ?_
        rintro e w2 ⟨⟨A2, c2, rfl, hr2⟩, hb2⟩
        have k2 := k1.below hb2 (Nat.le_refl _)
        have hbel := below_trans hb0 hb2
        clear hb2 k1 hb0
        go_wp2_with fail
        refine (rmade_any false A2 c2 (dig (numOf s.data.toList)) w2 hr2).mono ?_
        try rw [HQ.out]
        rintro e w3 ⟨rfl, hb3⟩
        have i3 := k2.below hb3 (Nat.le_refl _)
        have hr3 := hr2.below hb3 (Nat.le_refl _)
        have hbel3 := below_trans hbel hb3
        go_wp2_with ((with_reducible show wpList _ _ _ (Oper.mk none (Op.store _ _ _) _ _ _ _ :: _) _ _); refine wp_put (o := ⟨none, .store _ _ _, _, _, _, _⟩) _ _ i3 rfl rfl rfl rfl info_rint rfl rfl ?_; intro w5 i5 g5; obtain ⟨v5, v6, v7, v8⟩ := i5.both)
        rw [HE.out]
        exact bodyPost_ret (v := .tuple #[iv false A2 ((dig (numOf s.data.toList)) : List Nat).length c2, .int .i64 0]) (by simp [results, Try.results42, go_sem, v5, v6]) rfl ⟨⟨A2, c2, rfl, hr3.turn g5 i3.ib⟩, below_grown hbel3 g5 hbel3.size (Nat.le_refl _)⟩
  · have hz : s.size ≤ 0 := by omega
    have hh : s.data.toList.head? ≠ some 45 := by
      have : s.data.toList = [] := List.eq_nil_of_length_eq_zero (by rw [← Lib.size_eq]; omega)
      rw [this]
      simp
    clear hp
    rcases parseR_cases s.data.toList with ⟨k, hk, hk0⟩ | ⟨hk, _, hlen⟩
    · have HK := Lib.hid hk
      have HE : Hid (sparseR s.data.toList = (false, [], k)) := by unfold Hid; rw [sparseR_plus hh, hk]
      clear hk hh
      go_enter Try.func42, Try.ntmps42
      go_wp2_with fail
      refine (rparse_eq (s := s) HK.out (by first | exact hs | exact HX.out)).mono ?_
      rintro e w2 ⟨⟨A2, c2, rfl, hr2⟩, hb2⟩
      have k2 := k1.below hb2 (Nat.le_refl _)
      have hbel := below_trans hb0 hb2
      clear hb2 k1 hb0
      go_wp2_with ((with_reducible show wpList _ _ _ (Oper.mk none (Op.store _ _ _) _ _ _ _ :: _) _ _); refine wp_put (o := ⟨none, .store _ _ _, _, _, _, _⟩) _ _ k2 rfl rfl rfl rfl info_rint rfl rfl ?_; intro w5 i5 g5; obtain ⟨v5, v6, v7, v8⟩ := i5.both)
      rw [HE.out]
      exact bodyPost_ret (v := .tuple #[iv false none 0 0, .int .i64 k]) (by simp [results, Try.results42, go_sem, v5, v6]) rfl ⟨⟨none, 0, rfl, Rd.nil⟩, below_grown hbel g5 hbel.size (Nat.le_refl _)⟩
    · have HK := Lib.hid hk
      have HE : Hid (sparseR s.data.toList = (false, dig (numOf s.data.toList), 0)) := by unfold Hid; rw [sparseR_plus hh, hk]
      clear hk hh
      go_enter Try.func42, Try.ntmps42
      go_wp2_with fail
      refine (rparse_eq (s := s) HK.out (by first | exact hs | exact HX.out)).mono ?_
      rintro e w2 ⟨⟨A2, c2, rfl, hr2⟩, hb2⟩
      have k2 := k1.below hb2 (Nat.le_refl _)
      have hbel := below_trans hb0 hb2
      clear hb2 k1 hb0
      go_wp2_with fail
      refine (rmade_any false A2 c2 (dig (numOf s.data.toList)) w2 hr2).mono ?_
      try rw [HQ.out]
      rintro e w3 ⟨rfl, hb3⟩
      have i3 := k2.below hb3 (Nat.le_refl _)
      have hr3 := hr2.below hb3 (Nat.le_refl _)
      have hbel3 := below_trans hbel hb3
      go_wp2_with ((with_reducible show wpList _ _ _ (Oper.mk none (Op.store _ _ _) _ _ _ _ :: _) _ _); refine wp_put (o := ⟨none, .store _ _ _, _, _, _, _⟩) _ _ i3 rfl rfl rfl rfl info_rint rfl rfl ?_; intro w5 i5 g5; obtain ⟨v5, v6, v7, v8⟩ := i5.both)
      rw [HE.out]
      exact bodyPost_ret (v := .tuple #[iv false A2 ((dig (numOf s.data.toList)) : List Nat).length c2, .int .i64 0]) (by simp [results, Try.results42, go_sem, v5, v6]) rfl ⟨⟨A2, c2, rfl, hr3.turn g5 i3.ib⟩, below_grown hbel3 g5 hbel3.size (Nat.le_refl _)⟩
end Go.Proofs.Ytmhjjjffgpdolaa

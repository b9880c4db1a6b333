/-
  Contracts of signed.Add and Cmp.
  Contracts of signed.Cmp, Of, Small.
  Contract of signed.DivMod.
-/
import Derived.Test.YtlmgdhdakeekkaaSgA
import Derived.RegionTactic
import Derived.BigRegion
set_option linter.unusedSimpArgs false
set_option linter.unusedVariables false
namespace Go.Proofs.Ytlmgdhdakeekkaa
open Go.RowKit Num

theorem subR_len' {xs : List Nat} (ys : List Nat) (ho : Ok xs) (h : rightB xs = true) : (subR xs ys).1.length ≤ 256 := subR_len ho (right_len h)
theorem sadd_less {n m : Bool} {xs ys : List Nat} (ho : Ok ys) (hnm : (n == m) = false) (h1 : sright n xs = true) (h2 : sright m ys = true) (hle : val xs ≤ val ys) : saddR n xs m ys = madeR m (subR ys xs) := by
  rw [saddR_comm]
  exact sadd_sub ho (by cases n <;> cases m <;> simp at hnm ⊢) h2 h1 hle
set_option maxRecDepth 100000 in
set_option maxHeartbeats 1000000 in
theorem sadd_any (n m : Bool) (A B : Option Addr) (c d : Nat) (xs ys : List Nat) (w : World) (ha : Rd w A c xs) (hb : Rd w B d ys) :
    Calls Try.prog 44 #[iv n A xs.length c, iv m B ys.length d] w fun e w' => RetI w w' e (saddR n xs m ys) := by
  have ha0 := ((ha.alloc (.cells #[.bool n, .slice A xs.length c] 30)).alloc (.cells #[.bool m, .slice B ys.length d] 30)).alloc (.cells #[.bool false, .slice none 0 0] 30)
  have hy0 := ((hb.alloc (.cells #[.bool n, .slice A xs.length c] 30)).alloc (.cells #[.bool m, .slice B ys.length d] 30)).alloc (.cells #[.bool false, .slice none 0 0] 30)
  have hb0 := below_alloc (below_alloc (below_alloc1 w (.cells #[.bool n, .slice A xs.length c] 30)) (Nat.le_refl _) (.cells #[.bool m, .slice B ys.length d] 30)) (Nat.le_refl _) (.cells #[.bool false, .slice none 0 0] 30)
  have hi0 : IB (((w.alloc (.cells #[.bool n, .slice A xs.length c] 30)).alloc (.cells #[.bool m, .slice B ys.length d] 30)).alloc (.cells #[.bool false, .slice none 0 0] 30)) (w.heap.size + 1 + 1) := IB.at_ (by simp)
  rcases Bool.eq_false_or_eq_true (sright n xs && sright m ys) with h0 | h0
  case inr =>
    have HE := Lib.hid (saddR_no h0)
    have H1 := Lib.hid h0
    clear h0
    go_enter Try.func44, Try.ntmps44
    go_wp2_with fail
    refine (both_any _ _ A B c d xs ys _ ha0 hy0).mono ?_
    rintro e w2 ⟨rfl, hb2⟩
    rw [H1.out]
    obtain ⟨hc, hf⟩ := bcell hb2
    have ha2 := ha0.below hb2 (Nat.le_refl _)
    have hy2 := hy0.below hb2 (Nat.le_refl _)
    have hi2 := hi0.below hb2 (Nat.le_refl _)
    have hbel := below_trans hb0 hb2
    have hs2 : w.heap.size < w2.heap.size ∧ w.heap.size + 1 < w2.heap.size ∧ w.heap.size + 1 + 1 < w2.heap.size := by have := hb2.size; simp at this; omega
    go_wp2
    rw [HE.out]
    exact bodyPost_ret (v := .tuple #[iv false none 0 0, .int .i64 2]) (by simp [results, Try.results44, go_sem, hc, hf]) rfl ⟨⟨none, 0, rfl, Rd.nil.put hi2 _ _⟩, below_put hbel (by omega) _ _⟩
  have H1 := Lib.hid h0
  rw [Bool.and_eq_true] at h0
  obtain ⟨h1, h2⟩ := h0
  rcases Bool.eq_false_or_eq_true (n == m) with hnm | hnm
  · obtain rfl : n = m := by simpa using hnm
    have HE := Lib.hid (sadd_same h1 h2)
    clear h1 h2 hnm
    go_enter Try.func44, Try.ntmps44
    go_wp2_with fail
    refine (both_any _ _ A B c d xs ys _ ha0 hy0).mono ?_
    rintro e w2 ⟨rfl, hb2⟩
    rw [H1.out]
    obtain ⟨hc, hf⟩ := bcell hb2
    have ha2 := ha0.below hb2 (Nat.le_refl _)
    have hy2 := hy0.below hb2 (Nat.le_refl _)
    have hi2 := hi0.below hb2 (Nat.le_refl _)
    have hbel := below_trans hb0 hb2
    have hs2 : w.heap.size < w2.heap.size ∧ w.heap.size + 1 < w2.heap.size ∧ w.heap.size + 1 + 1 < w2.heap.size := by have := hb2.size; simp at this; omega
    go_wp2_with fail
    refine (add_any A B c d xs ys w2 ha2 hy2).mono ?_
    rintro e w3 ⟨⟨A3, c3, rfl, hr3⟩, hb3⟩
    have hs3 : w.heap.size < w3.heap.size ∧ w.heap.size + 1 < w3.heap.size ∧ w.heap.size + 1 + 1 < w3.heap.size := ⟨Nat.lt_of_lt_of_le hs2.1 hb3.size, Nat.lt_of_lt_of_le hs2.2.1 hb3.size, Nat.lt_of_lt_of_le hs2.2.2 hb3.size⟩
    obtain ⟨hc3, hf3⟩ := bcell hb3
    have hi3 := hi2.below hb3 (Nat.le_refl _)
    have hbel3 := below_trans hbel hb3
    go_wp2_with fail
    refine (made_any (n) A3 c3 (addR xs ys) w3 hr3 (by first | exact mulR_len' _ _ | exact addR_len' _ _ | exact Nat.le_trans HL.out (by omega))).mono ?_
    rintro e w4 h4
    obtain ⟨hc4, hf4⟩ := bcell h4.2
    obtain ⟨A4, c4, rfl, hr4, hb4⟩ := h4.put hbel3 (by omega) hi3
    clear h4
    go_wp2
    rw [HE.out]
    exact bodyPost_ret (v := .tuple #[iv (madeR (n) (addR xs ys)).1 A4 (madeR (n) (addR xs ys)).2.1.length c4, .int .i64 (madeR (n) (addR xs ys)).2.2]) (by simp [results, Try.results44, go_sem, hc, hf, hc3, hf3, hc4, hf4, hs2, hs3]) rfl ⟨⟨A4, c4, rfl, hr4 _ _⟩, hb4 _ _⟩
  · have C1 := Lib.hid (cmpR_eq (sright_rightB h1) (sright_rightB h2))
    by_cases hlt : val xs < val ys
    · have HE := Lib.hid (sadd_less hb.ok hnm h1 h2 (Nat.le_of_lt hlt))
      have HL := Lib.hid (subR_len' xs hb.ok (sright_rightB h2))
      have C2 := Lib.hid (cmpN_lt hlt)
      clear h1 h2 hlt
      have k1 : Blk (((w.alloc (.cells #[.bool n, .slice A xs.length c] 30)).alloc (.cells #[.bool m, .slice B ys.length d] 30)).alloc (.cells #[.bool false, .slice none 0 0] 30)) w.heap.size _ _ := ((Blk.new w 30 #[.bool n, .slice A xs.length c]).alloc _).alloc _
      have k2 : Blk (((w.alloc (.cells #[.bool n, .slice A xs.length c] 30)).alloc (.cells #[.bool m, .slice B ys.length d] 30)).alloc (.cells #[.bool false, .slice none 0 0] 30)) (w.heap.size + 1) _ _ := (Blk.at_ (by simp)).alloc _
      have k4 : Blk (((w.alloc (.cells #[.bool n, .slice A xs.length c] 30)).alloc (.cells #[.bool m, .slice B ys.length d] 30)).alloc (.cells #[.bool false, .slice none 0 0] 30)) (w.heap.size + 1 + 1) _ _ := Blk.at_ (by simp)
      go_enter Try.func44, Try.ntmps44
      go_wp2_with fail
      refine (both_any _ _ A B c d xs ys _ ha0 hy0).mono ?_
      rintro e w2 ⟨rfl, hb2⟩
      rw [H1.out]
      obtain ⟨hc, hf⟩ := bcell hb2
      have ha2 := ha0.below hb2 (Nat.le_refl _)
      have hy2 := hy0.below hb2 (Nat.le_refl _)
      have hi2 := hi0.below hb2 (Nat.le_refl _)
      have hbel := below_trans hb0 hb2
      have hs2 : w.heap.size < w2.heap.size ∧ w.heap.size + 1 < w2.heap.size ∧ w.heap.size + 1 + 1 < w2.heap.size := by have := hb2.size; simp at this; omega
      go_wp2_with fail
      refine (cmp_any A B c d xs ys w2 ha2 hy2).mono ?_
      rintro e w3' ⟨rfl, k3, rfl⟩
      rw [C1.out, C2.out]
      have p1 := (k1.below hb2 (Nat.le_refl _)).drewN k3
      have p2 := (k2.below hb2 (Nat.le_refl _)).drewN k3
      have p3 := (k4.below hb2 (Nat.le_refl _)).drewN k3
      have r1 := ha2.drewN k3
      have r2 := hy2.drewN k3
      have hbelW := hbel.trans ((Read.refl w2).drewN k3 |>.below _)
      clear ha2 hy2 hbel hs2 hi2
      go_wp2_with (first | ((with_reducible show wpList _ _ _ (Oper.mk none (Op.store _ _ _) _ _ _ _ :: _) _ _); refine wp_put (o := ⟨none, .store _ _ _, _, _, _, _⟩) _ _ p1 rfl rfl rfl rfl info_int rfl rfl ?_; intro wA a1 gA; clear hc hf; have a2 := p2.turn gA (by omega); have a3 := p3.turn gA (by omega); have s1 := r1.turn gA p1.ib; have s2 := r2.turn gA p1.ib; have hbelA := below_grown hbelW gA hbelW.size (Nat.le_refl _); clear p1 p2 p3 r1 r2 gA hbelW) | ((with_reducible show wpList _ _ _ (Oper.mk none (Op.store _ _ _) _ _ _ _ :: _) _ _); refine wp_put (o := ⟨none, .store _ _ _, _, _, _, _⟩) _ _ a2 rfl rfl rfl rfl info_int rfl rfl ?_; intro wB b2 gB; have b1 := a1.turn gB (by omega); have b3 := a3.turn gB (by omega); have t1 := s1.turn gB a2.ib; have t2 := s2.turn gB a2.ib; have hbelB := below_grown hbelA gB hbelA.size (Nat.le_succ _); clear a1 a2 a3 s1 s2 gB hbelA; obtain ⟨q1, q2, _, _⟩ := b1.both; obtain ⟨q3, q4, _, _⟩ := b2.both; obtain ⟨q5, q6, q7, q8⟩ := b3.both))
      refine (sub_any B A d c ys xs wB t2 t1).mono ?_
      rintro e w3 ⟨⟨A3, c3, rfl, hr3⟩, hb3⟩
      obtain ⟨v1, v2, _, _⟩ := (b1.below hb3 (Nat.le_refl _)).both
      have i3 := b3.below hb3 (Nat.le_refl _)
      obtain ⟨v5, v6, v7, v8⟩ := i3.both
      have hbel3 := below_trans hbelB hb3
      clear q1 q2 q3 q4 q5 q6 q7 q8 b1 b2 b3 t1 t2 hbelB hb3
      go_wp2_with fail
      refine (made_any (m) A3 c3 (subR ys xs) w3 hr3 (by first | exact mulR_len' _ _ | exact addR_len' _ _ | exact Nat.le_trans HL.out (by omega))).mono ?_
      rintro e w4 ⟨⟨A4, c4, rfl, hr4⟩, hb4⟩
      have i4 := i3.below hb4 (Nat.le_refl _)
      have hbel4 := below_trans hbel3 hb4
      clear v1 v2 v5 v6 v7 v8 i3 hbel3 hb4 hr3
      go_wp2_with ((with_reducible show wpList _ _ _ (Oper.mk none (Op.store _ _ _) _ _ _ _ :: _) _ _); refine wp_put (o := ⟨none, .store _ _ _, _, _, _, _⟩) _ _ i4 rfl rfl rfl rfl info_int rfl rfl ?_; intro w5 i5 g5; obtain ⟨v5, v6, v7, v8⟩ := i5.both)
      rw [HE.out]
      exact bodyPost_ret (v := .tuple #[iv (madeR (m) (subR ys xs)).1 A4 (madeR (m) (subR ys xs)).2.1.length c4, .int .i64 (madeR (m) (subR ys xs)).2.2]) (by simp [results, Try.results44, go_sem, v5, v6]) rfl ⟨⟨A4, c4, rfl, hr4.turn g5 i4.ib⟩, below_grown hbel4 g5 hbel4.size (by omega)⟩
    · have HE := Lib.hid (sadd_sub ha.ok hnm h1 h2 (Nat.le_of_not_lt hlt))
      have HL := Lib.hid (subR_len' ys ha.ok (sright_rightB h1))
      have C2 := Lib.hid (cmpN_neg_b hlt)
      clear h1 h2 hlt
      have k1 : Blk (((w.alloc (.cells #[.bool n, .slice A xs.length c] 30)).alloc (.cells #[.bool m, .slice B ys.length d] 30)).alloc (.cells #[.bool false, .slice none 0 0] 30)) w.heap.size _ _ := ((Blk.new w 30 #[.bool n, .slice A xs.length c]).alloc _).alloc _
      have k2 : Blk (((w.alloc (.cells #[.bool n, .slice A xs.length c] 30)).alloc (.cells #[.bool m, .slice B ys.length d] 30)).alloc (.cells #[.bool false, .slice none 0 0] 30)) (w.heap.size + 1) _ _ := (Blk.at_ (by simp)).alloc _
      have k4 : Blk (((w.alloc (.cells #[.bool n, .slice A xs.length c] 30)).alloc (.cells #[.bool m, .slice B ys.length d] 30)).alloc (.cells #[.bool false, .slice none 0 0] 30)) (w.heap.size + 1 + 1) _ _ := Blk.at_ (by simp)
      go_enter Try.func44, Try.ntmps44
      go_wp2_with fail
      refine (both_any _ _ A B c d xs ys _ ha0 hy0).mono ?_
      rintro e w2 ⟨rfl, hb2⟩
      rw [H1.out]
      obtain ⟨hc, hf⟩ := bcell hb2
      have ha2 := ha0.below hb2 (Nat.le_refl _)
      have hy2 := hy0.below hb2 (Nat.le_refl _)
      have hi2 := hi0.below hb2 (Nat.le_refl _)
      have hbel := below_trans hb0 hb2
      have hs2 : w.heap.size < w2.heap.size ∧ w.heap.size + 1 < w2.heap.size ∧ w.heap.size + 1 + 1 < w2.heap.size := by have := hb2.size; simp at this; omega
      go_wp2_with fail
      refine (cmp_any A B c d xs ys w2 ha2 hy2).mono ?_
      rintro e w3' ⟨rfl, k3, rfl⟩
      rw [C1.out]
      have hge := C2.out
      generalize cmpN (val xs) (val ys) = o at *
      go_wp2_with fail
      refine (sub_any A B c d xs ys _ (ha2.drewN k3) (hy2.drewN k3)).mono ?_
      rintro e w3 ⟨⟨A3, c3, rfl, hr3⟩, hb3⟩
      obtain ⟨v1, v2, _, _⟩ := (((k1.below hb2 (Nat.le_refl _)).drewN k3).below hb3 (Nat.le_refl _)).both
      have i3 := ((k4.below hb2 (Nat.le_refl _)).drewN k3).below hb3 (Nat.le_refl _)
      obtain ⟨v5, v6, v7, v8⟩ := i3.both
      have hbel3 := below_trans (hbel.trans ((Read.refl w2).drewN k3 |>.below _)) hb3
      clear hb3 hb2 hc hf k1 k2 k4 ha2 hy2
      go_wp2_with fail
      refine (made_any (n) A3 c3 (subR xs ys) w3 hr3 (by first | exact mulR_len' _ _ | exact addR_len' _ _ | exact Nat.le_trans HL.out (by omega))).mono ?_
      rintro e w4 ⟨⟨A4, c4, rfl, hr4⟩, hb4⟩
      have i4 := i3.below hb4 (Nat.le_refl _)
      have hbel4 := below_trans hbel3 hb4
      clear v1 v2 v5 v6 v7 v8 i3 hbel3 hb4 hr3
      go_wp2_with ((with_reducible show wpList _ _ _ (Oper.mk none (Op.store _ _ _) _ _ _ _ :: _) _ _); refine wp_put (o := ⟨none, .store _ _ _, _, _, _, _⟩) _ _ i4 rfl rfl rfl rfl info_int rfl rfl ?_; intro w5 i5 g5; obtain ⟨v5, v6, v7, v8⟩ := i5.both)
      rw [HE.out]
      exact bodyPost_ret (v := .tuple #[iv (madeR (n) (subR xs ys)).1 A4 (madeR (n) (subR xs ys)).2.1.length c4, .int .i64 (madeR (n) (subR xs ys)).2.2]) (by simp [results, Try.results44, go_sem, v5, v6]) rfl ⟨⟨A4, c4, rfl, hr4.turn g5 i4.ib⟩, below_grown hbel4 g5 hbel4.size (by omega)⟩
end Go.Proofs.Ytlmgdhdakeekkaa

namespace Go.Proofs.Ytlmgdhdakeekkaa
open Go.RowKit Num

/-- Two numbers in, none out: what is boxed. -/
theorem cmpN_bd (a b : Nat) : -1 ≤ cmpN a b ∧ cmpN a b ≤ 1 := by
  unfold cmpN
  split
  · omega
  · split <;> omega
theorem sd_pos {z : Int} (h : 0 ≤ z) : sN z = false ∧ sD z = dig z.toNat := by
  unfold sN sD
  exact ⟨by simpa using h, by congr 1; omega⟩
theorem sd_neg {z : Int} (h : z < 0) : sN z = true ∧ sD z = dig (-z).toNat := by
  unfold sN sD
  exact ⟨by simpa using h, by congr 1; omega⟩
theorem u64w (n : Int) : IntKind.u64.wrap n = n % 18446744073709551616 := by simp [IntKind.wrap, IntKind.bits, IntKind.signed]
theorem of_use {u : Nat} {U : Int} {w : World} (h : U = (u : Int)) (hu : u < 18446744073709551616) : Calls Try.prog 36 #[.int .u64 U] w fun e w' => RetS w w' e (dig u) := by
  subst h
  exact of_any u w hu
set_option maxRecDepth 100000 in
theorem sof_any (z : Int) (w : World) (hz : -9223372036854775808 ≤ z) (hz' : z ≤ 9223372036854775807) :
    Calls Try.prog 18 #[.int .i64 z] w fun e w' => RetN w w' e (sN z, sD z) := by
  have hb0 := below_alloc1 w (.cells #[.bool false, .slice none 0 0] 30)
  have k1 := Blk.new w 30 #[.bool false, .slice none 0 0]
  by_cases h : z < 0
  · have HD := Lib.hid (sd_neg h)
    have HU := Lib.hid ((by rw [u64w, u64w]; omega : IntKind.u64.wrap (-(IntKind.u64.wrap z)) = (((-z).toNat : Nat) : Int)))
    have HB : Hid (((-z).toNat) < 18446744073709551616) := by unfold Hid; omega
    go_enter Try.func18, Try.ntmps18
    go_wp2_with fail
    refine (of_use HU.out HB.out).mono ?_
    rintro e w2 ⟨⟨A2, c2, rfl, hr2⟩, hb2⟩
    have k2 := k1.below hb2 (Nat.le_refl _)
    have hbel := below_trans hb0 hb2
    go_wp2_with ((with_reducible show wpList _ _ _ (Oper.mk none (Op.store _ _ _) _ _ _ _ :: _) _ _); refine wp_put (o := ⟨none, .store _ _ _, _, _, _, _⟩) _ _ k2 rfl rfl rfl rfl info_int rfl rfl ?_; intro w5 i5 g5; obtain ⟨v5, v6, v7, v8⟩ := i5.both)
    rw [HD.out.1, HD.out.2]
    exact bodyPost_ret (v := iv true A2 (dig ((-z).toNat)).length c2) (by simp [results, Try.results18, go_sem, v5, v6]) rfl ⟨⟨A2, c2, rfl, hr2.turn g5 k2.ib⟩, below_grown hbel g5 hbel.size (Nat.le_refl _)⟩
  · have HD := Lib.hid (sd_pos (Int.not_lt.1 h))
    have HU := Lib.hid ((by omega : z = ((z.toNat : Nat) : Int)))
    have HB : Hid ((z.toNat) < 18446744073709551616) := by unfold Hid; omega
    go_enter Try.func18, Try.ntmps18
    go_wp2_with fail
    refine (of_use HU.out HB.out).mono ?_
    rintro e w2 ⟨⟨A2, c2, rfl, hr2⟩, hb2⟩
    have k2 := k1.below hb2 (Nat.le_refl _)
    have hbel := below_trans hb0 hb2
    go_wp2_with ((with_reducible show wpList _ _ _ (Oper.mk none (Op.store _ _ _) _ _ _ _ :: _) _ _); refine wp_put (o := ⟨none, .store _ _ _, _, _, _, _⟩) _ _ k2 rfl rfl rfl rfl info_int rfl rfl ?_; intro w5 i5 g5; obtain ⟨v5, v6, v7, v8⟩ := i5.both)
    rw [HD.out.1, HD.out.2]
    exact bodyPost_ret (v := iv false A2 (dig (z.toNat)).length c2) (by simp [results, Try.results18, go_sem, v5, v6]) rfl ⟨⟨A2, c2, rfl, hr2.turn g5 k2.ib⟩, below_grown hbel g5 hbel.size (Nat.le_refl _)⟩

theorem wrap64_neg {v : Nat} (h : v ≤ 9223372036854775808) : wrap64 (-(v : Int) % 18446744073709551616) = -(v : Int) := by
  unfold wrap64
  simp [IntKind.wrap, IntKind.bits, IntKind.signed]
  omega
theorem ssmallR_no {n : Bool} {xs : List Nat} (h : sright n xs = false) : ssmallR n xs = (0, 2) := by unfold ssmallR; rw [h]; rfl
theorem ssmallR_eq {n : Bool} {xs : List Nat} (h : sright n xs = true) : ssmallR n xs = if -9223372036854775808 ≤ sv n xs ∧ sv n xs < 9223372036854775808 then (sv n xs, 0) else (0, 4) := by unfold ssmallR; rw [h]; rfl
theorem val_two {xs : List Nat} (ho : Ok xs) (h : xs.length ≤ 2) : val xs < 18446744073709551616 := Nat.lt_of_lt_of_le (val_lt ho) (Nat.le_trans (Nat.pow_le_pow_right (by decide) h) (by decide))
theorem val_three {xs : List Nat} (ho : Ok xs) (h : rightB xs = true) (hl : ¬ xs.length ≤ 2) : 18446744073709551616 ≤ val xs := by
  refine Nat.le_of_not_lt (fun hlt => hl ?_)
  have := dig_length_le (n := val xs) (k := 2) hlt
  rwa [right_dig ho h] at this
set_option maxRecDepth 100000 in
set_option maxHeartbeats 1000000 in
theorem ssmall_any (n : Bool) (A : Option Addr) (c : Nat) (xs : List Nat) (w : World) (ha : Rd w A c xs) :
    Calls Try.prog 21 #[iv n A xs.length c] w fun e w' => e = .returned (.tuple #[.int .i64 (ssmallR n xs).1, .int .i64 (ssmallR n xs).2]) ∧ Below w.heap.size w w' := by
  have ha0 := ha.alloc (.cells #[.bool n, .slice A xs.length c] 30)
  have hb0 := below_alloc1 w (.cells #[.bool n, .slice A xs.length c] 30)
  have k1 := Blk.new w 30 #[.bool n, .slice A xs.length c]
  rcases Bool.eq_false_or_eq_true (sright n xs) with h1 | h1
  · have HE := Lib.hid (ssmallR_eq h1)
    have H1 := Lib.hid h1
    have hl : xs.length ≤ 256 := right_len (sright_rightB h1)
    by_cases h2 : xs.length ≤ 2
    · have hlt := val_two ha.ok h2
      have HU : Hid (uintR xs = (val xs, 0)) := by unfold Hid uintR; rw [if_pos (sright_rightB h1), if_pos h2]
      cases n
      · by_cases h3 : val xs ≤ 9223372036854775807
        · have HE := Lib.hid ((ssmallR_eq h1).trans ((if_pos (by unfold sv; simp; omega)).trans (by rfl : _ = ((val xs : Int), (0 : Int)))))
          clear h1
          go_enter Try.func21, Try.ntmps21
          go_wp2_with fail
          refine (sright_any _ A c xs _ ha0).mono ?_
          rintro e w2 ⟨rfl, hb2⟩
          rw [H1.out]
          obtain ⟨v1, v2, _, _⟩ := (k1.below hb2 (Nat.le_refl _)).both
          have ha2 := ha0.below hb2 (Nat.le_refl _)
          have hbel := below_trans hb0 hb2
          clear hb2 k1 ha0 hb0
          go_wp2_with fail
          refine (uint_any A c xs w2 ha2 (by omega)).mono ?_
          rintro e w3 ⟨hret, k3, rfl⟩
          unfold RetUE at hret
          subst hret
          rw [HU.out]
          clear HU
          generalize val xs = v at *
          go_wp2
          go_ret2
          refine ⟨?_, hbel.trans ((Read.refl w2).drewN k3 |>.below _)⟩
          rw [HE.out]
          try rfl
        · have HE := Lib.hid ((ssmallR_eq h1).trans (if_neg (by unfold sv; simp; omega)))
          clear h1
          go_enter Try.func21, Try.ntmps21
          go_wp2_with fail
          refine (sright_any _ A c xs _ ha0).mono ?_
          rintro e w2 ⟨rfl, hb2⟩
          rw [H1.out]
          obtain ⟨v1, v2, _, _⟩ := (k1.below hb2 (Nat.le_refl _)).both
          have ha2 := ha0.below hb2 (Nat.le_refl _)
          have hbel := below_trans hb0 hb2
          clear hb2 k1 ha0 hb0
          go_wp2_with fail
          refine (uint_any A c xs w2 ha2 (by omega)).mono ?_
          rintro e w3 ⟨hret, k3, rfl⟩
          unfold RetUE at hret
          subst hret
          rw [HU.out]
          clear HU
          generalize val xs = v at *
          go_wp2
          go_ret2
          refine ⟨?_, hbel.trans ((Read.refl w2).drewN k3 |>.below _)⟩
          rw [HE.out]
          try rfl
      · by_cases h3 : val xs ≤ 9223372036854775808
        · have HE := Lib.hid ((ssmallR_eq h1).trans ((if_pos (by unfold sv; simp; omega)).trans (by rfl : _ = (-(val xs : Int), (0 : Int)))))
          clear h1
          go_enter Try.func21, Try.ntmps21
          go_wp2_with fail
          refine (sright_any _ A c xs _ ha0).mono ?_
          rintro e w2 ⟨rfl, hb2⟩
          rw [H1.out]
          obtain ⟨v1, v2, _, _⟩ := (k1.below hb2 (Nat.le_refl _)).both
          have ha2 := ha0.below hb2 (Nat.le_refl _)
          have hbel := below_trans hb0 hb2
          clear hb2 k1 ha0 hb0
          go_wp2_with fail
          refine (uint_any A c xs w2 ha2 (by omega)).mono ?_
          rintro e w3 ⟨hret, k3, rfl⟩
          unfold RetUE at hret
          subst hret
          rw [HU.out]
          clear HU
          generalize val xs = v at *
          go_wp2
          go_ret2
          refine ⟨?_, hbel.trans ((Read.refl w2).drewN k3 |>.below _)⟩
          rw [HE.out]
          try rfl
          have hw : wrap64 (IntKind.u64.wrap (-(v : Int))) = -(v : Int) := by rw [u64w]; exact wrap64_neg h3
          show Ending.returned (.tuple #[.int .i64 (wrap64 (IntKind.u64.wrap (-(v : Int)))), .int .i64 0]) = _
          rw [hw]
        · have HE := Lib.hid ((ssmallR_eq h1).trans (if_neg (by unfold sv; simp; omega)))
          clear h1
          go_enter Try.func21, Try.ntmps21
          go_wp2_with fail
          refine (sright_any _ A c xs _ ha0).mono ?_
          rintro e w2 ⟨rfl, hb2⟩
          rw [H1.out]
          obtain ⟨v1, v2, _, _⟩ := (k1.below hb2 (Nat.le_refl _)).both
          have ha2 := ha0.below hb2 (Nat.le_refl _)
          have hbel := below_trans hb0 hb2
          clear hb2 k1 ha0 hb0
          go_wp2_with fail
          refine (uint_any A c xs w2 ha2 (by omega)).mono ?_
          rintro e w3 ⟨hret, k3, rfl⟩
          unfold RetUE at hret
          subst hret
          rw [HU.out]
          clear HU
          generalize val xs = v at *
          go_wp2
          go_ret2
          refine ⟨?_, hbel.trans ((Read.refl w2).drewN k3 |>.below _)⟩
          rw [HE.out]
          try rfl
    · have hge := val_three ha.ok (sright_rightB h1) h2
      have HU : Hid (uintR xs = (0, 4)) := by unfold Hid uintR; rw [if_pos (sright_rightB h1), if_neg h2]
      have HE := Lib.hid ((ssmallR_eq h1).trans (if_neg (by unfold sv; cases n <;> simp <;> omega)))
      clear h1
      go_enter Try.func21, Try.ntmps21
      go_wp2_with fail
      refine (sright_any _ A c xs _ ha0).mono ?_
      rintro e w2 ⟨rfl, hb2⟩
      rw [H1.out]
      obtain ⟨v1, v2, _, _⟩ := (k1.below hb2 (Nat.le_refl _)).both
      have ha2 := ha0.below hb2 (Nat.le_refl _)
      have hbel := below_trans hb0 hb2
      clear hb2 k1 ha0 hb0
      go_wp2_with fail
      refine (uint_any A c xs w2 ha2 (by omega)).mono ?_
      rintro e w3 ⟨hret, k3, rfl⟩
      unfold RetUE at hret
      subst hret
      rw [HU.out]
      clear HU
      generalize val xs = v at *
      go_wp2
      go_ret2
      refine ⟨?_, hbel.trans ((Read.refl w2).drewN k3 |>.below _)⟩
      rw [HE.out]
      try rfl
  · have HE := Lib.hid (ssmallR_no h1)
    have H1 := Lib.hid h1
    clear h1
    go_enter Try.func21, Try.ntmps21
    go_wp2_with fail
    refine (sright_any _ A c xs _ ha0).mono ?_
    rintro e w2 ⟨rfl, hb2⟩
    rw [H1.out]
    obtain ⟨v1, v2, _, _⟩ := (k1.below hb2 (Nat.le_refl _)).both
    have ha2 := ha0.below hb2 (Nat.le_refl _)
    have hbel := below_trans hb0 hb2
    clear hb2 k1 ha0 hb0
    go_wp2
    go_ret2
    rw [HE.out]
    exact ⟨rfl, hbel⟩

end Go.Proofs.Ytlmgdhdakeekkaa

namespace Go.Proofs.Ytlmgdhdakeekkaa
open Go.RowKit Num

theorem sdivR_no {n m : Bool} {xs ys : List Nat} (h : (sright n xs && sright m ys && decide (ys ≠ [])) = false) : sdivR n xs m ys = dbad 2 := by unfold sdivR; rw [h]; rfl
theorem sdivR_eq {n m : Bool} {xs ys : List Nat} (h1 : sright n xs = true) (h2 : sright m ys = true) (h3 : ys ≠ []) :
    sdivR n xs m ys = (if (sD (Int.fdiv (sv n xs) (sv m ys))).length ≤ 256 then dok (Int.fdiv (sv n xs) (sv m ys)) (Int.fmod (sv n xs) (sv m ys)) else dbad 3) := by
  unfold sdivR
  rw [h1, h2, decide_eq_true h3]
  rfl
theorem sN_nat (n : Bool) (k : Nat) : sN (if n then -(k : Int) else k) = (n && decide (dig k ≠ [])) := congrArg (·.1) (madeR_dig n k).symm
theorem sdiv_same {n : Bool} {xs ys : List Nat} (ho : Ok xs) (ho' : Ok ys) (h1 : sright n xs = true) (h2 : sright n ys = true) (h3 : ys ≠ []) :
    sdivR n xs n ys = (false && decide (dig (val xs / val ys) ≠ []), dig (val xs / val ys), n && decide (dig (val xs % val ys) ≠ []), dig (val xs % val ys), 0) := by
  rw [sdivR_eq h1 h2 h3]
  obtain ⟨e1, e2⟩ := fdiv_same n (val xs) (val ys) (val_pos_right ho' (sright_rightB h2) h3)
  unfold sv
  rw [e1, e2]
  have hl : (sD ((val xs / val ys : Nat) : Int)).length ≤ 256 := len_dig_sub ho (sright_rightB h1) _ (Nat.div_le_self _ _)
  rw [if_pos hl]
  unfold dok
  rw [sD_of, sN_nat]
  have := sN_nat false (val xs / val ys)
  simp only [Bool.false_eq_true, if_false] at this
  rw [this]
  rfl
theorem sdiv_zero {n : Bool} {xs ys : List Nat} (ho : Ok xs) (ho' : Ok ys) (h1 : sright n xs = true) (h2 : sright (!n) ys = true) (h3 : ys ≠ []) (h4 : dig (val xs % val ys) = []) :
    sdivR n xs (!n) ys = (true && decide (dig (val xs / val ys) ≠ []), dig (val xs / val ys), (!n) && decide (dig (val xs % val ys) ≠ []), dig (val xs % val ys), 0) := by
  rw [sdivR_eq h1 h2 h3]
  obtain ⟨e1, e2⟩ := fdiv_zero n (val xs) (val ys) (val_pos_right ho' (sright_rightB h2) h3) (dig_eq_nil.1 h4)
  unfold sv
  rw [e1, e2]
  have hs := sD_of true (val xs / val ys)
  have hn := sN_nat true (val xs / val ys)
  simp only [if_true] at hs hn
  have hl : (sD (-((val xs / val ys : Nat) : Int))).length ≤ 256 := by rw [hs]; exact len_dig_sub ho (sright_rightB h1) _ (Nat.div_le_self _ _)
  rw [if_pos hl]
  unfold dok
  rw [hs, hn, h4]
  simp [sN, sD, dig_zero]
theorem sdiv_down {n : Bool} {xs ys : List Nat} (ho' : Ok ys) (h1 : sright n xs = true) (h2 : sright (!n) ys = true) (h3 : ys ≠ []) (h4 : dig (val xs % val ys) ≠ []) :
    sdivR n xs (!n) ys = if (dig (val xs / val ys + 1)).length ≤ 256 then (true && decide (dig (val xs / val ys + 1) ≠ []), dig (val xs / val ys + 1), (!n) && decide (dig (val ys - val xs % val ys) ≠ []), dig (val ys - val xs % val ys), 0) else dbad 3 := by
  rw [sdivR_eq h1 h2 h3]
  obtain ⟨e1, e2⟩ := fdiv_down n (val xs) (val ys) (val_pos_right ho' (sright_rightB h2) h3) (fun e => h4 (dig_eq_nil.2 e))
  unfold sv
  rw [e1, e2]
  have hs := sD_of true (val xs / val ys + 1)
  have hn := sN_nat true (val xs / val ys + 1)
  simp only [if_true] at hs hn
  rw [hs]
  unfold dok
  rw [hs, hn, sN_nat, sD_of]

set_option maxRecDepth 100000 in
set_option maxHeartbeats 2000000 in
theorem sdivmod_any (n m : Bool) (A B : Option Addr) (c d : Nat) (xs ys : List Nat) (w : World) (ha : Rd w A c xs) (hb : Rd w B d ys) :
    Calls Try.prog 35 #[iv n A xs.length c, iv m B ys.length d] w fun e w' => RetII w w' e (sdivR n xs m ys) := by
  have ha0 := (((ha.alloc (.cells #[.bool n, .slice A xs.length c] 30)).alloc (.cells #[.bool m, .slice B ys.length d] 30)).alloc (.cells #[.bool false, .slice none 0 0] 30)).alloc (.cells #[.bool false, .slice none 0 0] 30)
  have hy0 := (((hb.alloc (.cells #[.bool n, .slice A xs.length c] 30)).alloc (.cells #[.bool m, .slice B ys.length d] 30)).alloc (.cells #[.bool false, .slice none 0 0] 30)).alloc (.cells #[.bool false, .slice none 0 0] 30)
  have hb0 := below_alloc (below_alloc (below_alloc (below_alloc1 w (.cells #[.bool n, .slice A xs.length c] 30)) (Nat.le_refl _) (.cells #[.bool m, .slice B ys.length d] 30)) (Nat.le_refl _) (.cells #[.bool false, .slice none 0 0] 30)) (Nat.le_refl _) (.cells #[.bool false, .slice none 0 0] 30)
  have k1 : Blk ((((w.alloc (.cells #[.bool n, .slice A xs.length c] 30)).alloc (.cells #[.bool m, .slice B ys.length d] 30)).alloc (.cells #[.bool false, .slice none 0 0] 30)).alloc (.cells #[.bool false, .slice none 0 0] 30)) w.heap.size _ _ := (((Blk.new w 30 #[.bool n, .slice A xs.length c]).alloc _).alloc _).alloc _
  have k2 : Blk ((((w.alloc (.cells #[.bool n, .slice A xs.length c] 30)).alloc (.cells #[.bool m, .slice B ys.length d] 30)).alloc (.cells #[.bool false, .slice none 0 0] 30)).alloc (.cells #[.bool false, .slice none 0 0] 30)) (w.heap.size + 1) _ _ := ((Blk.at_ (by simp)).alloc _).alloc _
  have k3 : Blk ((((w.alloc (.cells #[.bool n, .slice A xs.length c] 30)).alloc (.cells #[.bool m, .slice B ys.length d] 30)).alloc (.cells #[.bool false, .slice none 0 0] 30)).alloc (.cells #[.bool false, .slice none 0 0] 30)) (w.heap.size + 1 + 1) _ _ := (Blk.at_ (by simp)).alloc _
  have k4 : Blk ((((w.alloc (.cells #[.bool n, .slice A xs.length c] 30)).alloc (.cells #[.bool m, .slice B ys.length d] 30)).alloc (.cells #[.bool false, .slice none 0 0] 30)).alloc (.cells #[.bool false, .slice none 0 0] 30)) (w.heap.size + 1 + 1 + 1) _ _ := Blk.at_ (by simp)
  rcases Bool.eq_false_or_eq_true (sright n xs && sright m ys) with h0 | h0
  case inr =>
    have HE := Lib.hid (sdivR_no (n := n) (m := m) (xs := xs) (ys := ys) (by rw [h0]; rfl))
    have H1 := Lib.hid h0
    clear h0
    go_enter Try.func35, Try.ntmps35
    go_wp2_with fail
    refine (both_any _ _ A B c d xs ys _ ha0 hy0).mono ?_
    rintro e w2 ⟨rfl, hb2⟩
    rw [H1.out]
    have j1 := k1.below hb2 (Nat.le_refl _)
    have j2 := k2.below hb2 (Nat.le_refl _)
    have j3 := k3.below hb2 (Nat.le_refl _)
    have j4 := k4.below hb2 (Nat.le_refl _)
    obtain ⟨v1, v2, _, _⟩ := j1.both
    obtain ⟨v3, v4, _, _⟩ := j2.both
    have ha2 := ha0.below hb2 (Nat.le_refl _)
    have hy2 := hy0.below hb2 (Nat.le_refl _)
    have hbel := below_trans hb0 hb2
    clear hb2 k1 k2 k3 k4 ha0 hy0 hb0
    go_wp2_with (first | ((with_reducible show wpList _ _ _ (Oper.mk none (Op.store _ _ _) _ _ _ _ :: _) _ _); refine wp_put (o := ⟨none, .store _ _ _, _, _, _, _⟩) _ _ j3 rfl rfl rfl rfl info_int rfl rfl ?_; intro wA a3 gA; have a4 := j4.turn gA (by omega); have hbelA := below_grown hbel gA hbel.size (by omega)) | ((with_reducible show wpList _ _ _ (Oper.mk none (Op.store _ _ _) _ _ _ _ :: _) _ _); refine wp_put (o := ⟨none, .store _ _ _, _, _, _, _⟩) _ _ a4 rfl rfl rfl rfl info_int rfl rfl ?_; intro wB b4 gB; have b3 := a3.turn gB (by omega); have hbelB := below_grown hbelA gB hbelA.size (by omega); obtain ⟨v5, v6, _, _⟩ := b3.both; obtain ⟨v7, v8, _, _⟩ := b4.both))
    rw [HE.out]
    exact bodyPost_ret (v := .tuple #[iv false none 0 0, iv false none 0 0, .int .i64 2]) (by simp [results, Try.results35, go_sem, v5, v6, v7, v8]) rfl ⟨⟨none, 0, none, 0, rfl, Rd.nil, Rd.nil⟩, hbelB⟩
  have H1 := Lib.hid h0
  rw [Bool.and_eq_true] at h0
  obtain ⟨h1, h2⟩ := h0
  by_cases hy : ys = []
  · subst hy
    have HE := Lib.hid (sdivR_no (n := n) (m := m) (xs := xs) (ys := []) (by simp))
    clear h1 h2
    go_enter Try.func35, Try.ntmps35
    go_wp2_with fail
    refine (both_any _ _ A B c d xs [] _ ha0 hy0).mono ?_
    rintro e w2 ⟨rfl, hb2⟩
    rw [H1.out]
    have j2 := k2.below hb2 (Nat.le_refl _)
    have j3 := k3.below hb2 (Nat.le_refl _)
    have j4 := k4.below hb2 (Nat.le_refl _)
    obtain ⟨v3, v4, _, _⟩ := j2.both
    have hbel := below_trans hb0 hb2
    clear hb2 k1 k2 k3 k4 ha0 hy0 hb0
    go_wp2_with (first | ((with_reducible show wpList _ _ _ (Oper.mk none (Op.store _ _ _) _ _ _ _ :: _) _ _); refine wp_put (o := ⟨none, .store _ _ _, _, _, _, _⟩) _ _ j3 rfl rfl rfl rfl info_int rfl rfl ?_; intro wA a3 gA; have a4 := j4.turn gA (by omega); have hbelA := below_grown hbel gA hbel.size (by omega)) | ((with_reducible show wpList _ _ _ (Oper.mk none (Op.store _ _ _) _ _ _ _ :: _) _ _); refine wp_put (o := ⟨none, .store _ _ _, _, _, _, _⟩) _ _ a4 rfl rfl rfl rfl info_int rfl rfl ?_; intro wB b4 gB; have b3 := a3.turn gB (by omega); have hbelB := below_grown hbelA gB hbelA.size (by omega); obtain ⟨v5, v6, _, _⟩ := b3.both; obtain ⟨v7, v8, _, _⟩ := b4.both))
    rw [HE.out]
    exact bodyPost_ret (v := .tuple #[iv false none 0 0, iv false none 0 0, .int .i64 2]) (by simp [results, Try.results35, go_sem, v5, v6, v7, v8]) rfl ⟨⟨none, 0, none, 0, rfl, Rd.nil, Rd.nil⟩, hbelB⟩
  have hyl : ((ys.length : Int) == 0) = false := len_zero_b hy
  have HD := Lib.hid (divR_eq (sright_rightB h1) (sright_rightB h2) hy)
  rcases Bool.eq_false_or_eq_true (n == m) with hnm | hnm
  · obtain rfl : n = m := by simpa using hnm
    have HE := Lib.hid (sdiv_same ha.ok hb.ok h1 h2 hy)
    have HL : Hid ((dig (val xs / val ys)).length ≤ 256 ∧ (dig (val xs % val ys)).length ≤ 256) := ⟨len_dig_sub ha.ok (sright_rightB h1) _ (Nat.div_le_self _ _), len_dig_sub ha.ok (sright_rightB h1) _ (Nat.mod_le _ _)⟩
    clear h1 h2 hnm hy
    go_enter Try.func35, Try.ntmps35
    go_wp2_with fail
    refine (both_any _ _ A B c d xs ys _ ha0 hy0).mono ?_
    rintro e w2 ⟨rfl, hb2⟩
    rw [H1.out]
    have j1 := k1.below hb2 (Nat.le_refl _)
    have j2 := k2.below hb2 (Nat.le_refl _)
    have j3 := k3.below hb2 (Nat.le_refl _)
    have j4 := k4.below hb2 (Nat.le_refl _)
    obtain ⟨v1, v2, _, _⟩ := j1.both
    obtain ⟨v3, v4, _, _⟩ := j2.both
    have ha2 := ha0.below hb2 (Nat.le_refl _)
    have hy2 := hy0.below hb2 (Nat.le_refl _)
    have hbel := below_trans hb0 hb2
    clear hb2 k1 k2 k3 k4 ha0 hy0 hb0
    go_wp2_with fail
    refine (divmod_any A B c d xs ys w2 ha2 hy2).mono ?_
    rintro e w3 ⟨⟨A3, c3, B3, d3, rfl, hq3, hr3⟩, hb3⟩
    rw [HD.out] at hq3 hr3 ⊢
    have i1 := j1.below hb3 (Nat.le_refl _)
    have i2 := j2.below hb3 (Nat.le_refl _)
    have i3 := j3.below hb3 (Nat.le_refl _)
    have i4 := j4.below hb3 (Nat.le_refl _)
    clear v1 v2 v3 v4 j1 j2 j3 j4
    obtain ⟨v1, v2, _, _⟩ := i1.both
    obtain ⟨v3, v4, _, _⟩ := i2.both
    have hbel3 := below_trans hbel hb3
    clear hb3 hbel ha2 hy2
    go_wp2_with fail
    refine (made_ok _ A3 c3 (dig (val xs / val ys)) w3 hq3 (Nat.le_trans HL.out.1 (by decide))).mono ?_
    generalize (false && decide ((dig (val xs / val ys)) ≠ [])) = sq at *
    rintro e w4 ⟨⟨A4, c4, rfl, hq4⟩, hb4⟩
    have kx := Blk.new w4 30 #[.bool sq, .slice A4 (dig (val xs / val ys)).length c4]
    have hq4' := hq4.alloc (.cells #[.bool sq, .slice A4 (dig (val xs / val ys)).length c4] 30)
    have hr4 := (hr3.below hb4 (Nat.le_refl _)).alloc (.cells #[.bool sq, .slice A4 (dig (val xs / val ys)).length c4] 30)
    have l1 := i1.below hb4 (Nat.le_refl _)
    have l2 := i2.below hb4 (Nat.le_refl _)
    have l3 := (i3.below hb4 (Nat.le_refl _)).alloc (.cells #[.bool sq, .slice A4 (dig (val xs / val ys)).length c4] 30)
    have l4 := (i4.below hb4 (Nat.le_refl _)).alloc (.cells #[.bool sq, .slice A4 (dig (val xs / val ys)).length c4] 30)
    have y3 := (i3.below hb4 (Nat.le_refl _)).lt
    have y4 := (i4.below hb4 (Nat.le_refl _)).lt
    clear v1 v2 v3 v4 i1 i2 i3 i4 hr3 hq3
    obtain ⟨v1, v2, _, _⟩ := l1.both
    obtain ⟨v3, v4, _, _⟩ := l2.both
    have z1 := l1.lt
    have z2 := l2.lt
    have hbel4 := below_alloc (below_trans hbel3 hb4) (Nat.le_refl _) (.cells #[.bool sq, .slice A4 (dig (val xs / val ys)).length c4] 30)
    clear hb4 hbel3 hq4
    go_wp2_with fail
    refine (made_ok _ B3 d3 (dig (val xs % val ys)) _ hr4 (Nat.le_trans HL.out.2 (by decide))).mono ?_
    generalize (n && decide ((dig (val xs % val ys)) ≠ [])) = sr at *
    rintro e w5 ⟨⟨B5, d5, rfl, hr5⟩, hb5⟩
    have o3 := (l3.below hb5 (Nat.le_refl _)).alloc (.cells #[.bool sr, .slice B5 (dig (val xs % val ys)).length d5] 30)
    have o4 := (l4.below hb5 (Nat.le_refl _)).alloc (.cells #[.bool sr, .slice B5 (dig (val xs % val ys)).length d5] 30)
    have ox := (kx.below hb5 (Nat.le_refl _)).alloc (.cells #[.bool sr, .slice B5 (dig (val xs % val ys)).length d5] 30)
    have oy := Blk.new w5 30 #[.bool sr, .slice B5 (dig (val xs % val ys)).length d5]
    have hq5 := (hq4'.below hb5 (Nat.le_refl _)).alloc (.cells #[.bool sr, .slice B5 (dig (val xs % val ys)).length d5] 30)
    have hr5' := hr5.alloc (.cells #[.bool sr, .slice B5 (dig (val xs % val ys)).length d5] 30)
    have hbel5 := below_alloc (below_trans hbel4 hb5) (Nat.le_refl _) (.cells #[.bool sr, .slice B5 (dig (val xs % val ys)).length d5] 30)
    have x3 := (l3.below hb5 (Nat.le_refl _)).lt
    have x4 := (l4.below hb5 (Nat.le_refl _)).lt
    have xx := (kx.below hb5 (Nat.le_refl _)).lt
    clear l1 l2 l3 l4 kx hr4 hq4' hb5 hbel4 v1 v2 v3 v4 hr5
    have e1 : ¬ w.heap.size + 1 + 1 = w5.heap.size := by omega
    have e2 : ¬ w.heap.size + 1 + 1 + 1 = w5.heap.size := by omega
    have e3 : ¬ w.heap.size + 1 + 1 = w4.heap.size := by omega
    have e4 : ¬ w.heap.size + 1 + 1 + 1 = w4.heap.size := by omega
    have e5 : ¬ w5.heap.size = w.heap.size + 1 + 1 := by omega
    have e6 : ¬ w5.heap.size = w.heap.size + 1 + 1 + 1 := by omega
    have e7 : ¬ w4.heap.size = w.heap.size + 1 + 1 := by omega
    have e8 : ¬ w4.heap.size = w.heap.size + 1 + 1 + 1 := by omega
    clear x3 x4 xx y3 y4 z1 z2
    go_wp2_with fail
    generalize w5.heap.size = gy at *
    generalize w4.heap.size = gx at *
    generalize w5.alloc (.cells #[.bool sr, .slice B5 (dig (val xs % val ys)).length d5] 30) = W at *
    obtain ⟨v1, v2, v3, v4⟩ := o3.both
    obtain ⟨v5, v6, v7, v8⟩ := o4.both
    obtain ⟨v9, v10, v11, v12⟩ := ox.both
    obtain ⟨v13, v14, v15, v16⟩ := oy.both
    go_region
    have p3 := (o3.put (.bool sq) (.slice A4 (dig (val xs / val ys)).length c4)).away (k := w.heap.size + 1 + 1 + 1) (by omega) (.bool sr) (.slice B5 (dig (val xs % val ys)).length d5)
    have p4 := (o4.away (k := w.heap.size + 1 + 1) (by omega) (.bool sq) (.slice A4 (dig (val xs / val ys)).length c4)).put (.bool sr) (.slice B5 (dig (val xs % val ys)).length d5)
    obtain ⟨u1, u2, _, _⟩ := p3.both
    obtain ⟨u3, u4, _, _⟩ := p4.both
    have hq6 := (hq5.put o3.ib sq (.slice A4 (dig (val xs / val ys)).length c4)).put (o4.away (k := w.heap.size + 1 + 1) (by omega) (.bool sq) (.slice A4 (dig (val xs / val ys)).length c4)).ib sr (.slice B5 (dig (val xs % val ys)).length d5)
    have hr6 := (hr5'.put o3.ib sq (.slice A4 (dig (val xs / val ys)).length c4)).put (o4.away (k := w.heap.size + 1 + 1) (by omega) (.bool sq) (.slice A4 (dig (val xs / val ys)).length c4)).ib sr (.slice B5 (dig (val xs % val ys)).length d5)
    have hbel6 := below_put (below_put hbel5 (by omega) (.bool sq) (.slice A4 (dig (val xs / val ys)).length c4) (g := w.heap.size + 1 + 1)) (by omega) (.bool sr) (.slice B5 (dig (val xs % val ys)).length d5) (g := w.heap.size + 1 + 1 + 1)
    clear v1 v2 v3 v4 v5 v6 v7 v8 v9 v10 v11 v12 v13 v14 v15 v16 o3 o4 ox oy hq5 hr5' hbel5 p3 p4
    go_wp2
    rw [HE.out]
    exact bodyPost_ret (v := .tuple #[iv sq A4 (dig (val xs / val ys)).length c4, iv sr B5 (dig (val xs % val ys)).length d5, .int .i64 0]) (by simp [results, Try.results35, go_sem, u1, u2, u3, u4]) rfl ⟨⟨A4, c4, B5, d5, rfl, hq6.drew, hr6.drew⟩, hbel6.trans ((Read.refl _).drew.below _)⟩
  · obtain rfl : m = !n := by cases n <;> cases m <;> simp at hnm ⊢
    have hnn : (n == !n) = false := by cases n <;> rfl
    have hnn2 : (n != !n) = true := by cases n <;> rfl
    by_cases h4 : dig (val xs % val ys) = []
    · have HE := Lib.hid (sdiv_zero ha.ok hb.ok h1 h2 hy h4)
      have HL : Hid ((dig (val xs / val ys)).length ≤ 256 ∧ (dig (val xs % val ys)).length ≤ 256) := ⟨len_dig_sub ha.ok (sright_rightB h1) _ (Nat.div_le_self _ _), len_dig_sub ha.ok (sright_rightB h1) _ (Nat.mod_le _ _)⟩
      have hr0 : (dig (val xs % val ys)).length ≤ 0 := by rw [h4]; exact Nat.le_refl _
      have hr1 : decide (0 < (dig (val xs % val ys)).length) = false := by rw [h4]; rfl
      clear h1 h2 hnm hy h4
      go_enter Try.func35, Try.ntmps35
      go_wp2_with fail
      refine (both_any _ _ A B c d xs ys _ ha0 hy0).mono ?_
      rintro e w2 ⟨rfl, hb2⟩
      rw [H1.out]
      have j1 := k1.below hb2 (Nat.le_refl _)
      have j2 := k2.below hb2 (Nat.le_refl _)
      have j3 := k3.below hb2 (Nat.le_refl _)
      have j4 := k4.below hb2 (Nat.le_refl _)
      obtain ⟨v1, v2, _, _⟩ := j1.both
      obtain ⟨v3, v4, _, _⟩ := j2.both
      have ha2 := ha0.below hb2 (Nat.le_refl _)
      have hy2 := hy0.below hb2 (Nat.le_refl _)
      have hbel := below_trans hb0 hb2
      clear hb2 k1 k2 k3 k4 ha0 hy0 hb0
      go_wp2_with fail
      refine (divmod_any A B c d xs ys w2 ha2 hy2).mono ?_
      rintro e w3 ⟨⟨A3, c3, B3, d3, rfl, hq3, hr3⟩, hb3⟩
      rw [HD.out] at hq3 hr3 ⊢
      have i1 := j1.below hb3 (Nat.le_refl _)
      have i2 := j2.below hb3 (Nat.le_refl _)
      have i3 := j3.below hb3 (Nat.le_refl _)
      have i4 := j4.below hb3 (Nat.le_refl _)
      clear v1 v2 v3 v4 j1 j2 j3 j4
      obtain ⟨v1, v2, _, _⟩ := i1.both
      obtain ⟨v3, v4, _, _⟩ := i2.both
      have hbel3 := below_trans hbel hb3
      clear hb3 hbel ha2 hy2
      go_wp2_with fail
      refine (made_ok _ A3 c3 (dig (val xs / val ys)) w3 hq3 (Nat.le_trans HL.out.1 (by decide))).mono ?_
      generalize (true && decide ((dig (val xs / val ys)) ≠ [])) = sq at *
      rintro e w4 ⟨⟨A4, c4, rfl, hq4⟩, hb4⟩
      have kx := Blk.new w4 30 #[.bool sq, .slice A4 (dig (val xs / val ys)).length c4]
      have hq4' := hq4.alloc (.cells #[.bool sq, .slice A4 (dig (val xs / val ys)).length c4] 30)
      have hr4 := (hr3.below hb4 (Nat.le_refl _)).alloc (.cells #[.bool sq, .slice A4 (dig (val xs / val ys)).length c4] 30)
      have l1 := i1.below hb4 (Nat.le_refl _)
      have l2 := i2.below hb4 (Nat.le_refl _)
      have l3 := (i3.below hb4 (Nat.le_refl _)).alloc (.cells #[.bool sq, .slice A4 (dig (val xs / val ys)).length c4] 30)
      have l4 := (i4.below hb4 (Nat.le_refl _)).alloc (.cells #[.bool sq, .slice A4 (dig (val xs / val ys)).length c4] 30)
      have y3 := (i3.below hb4 (Nat.le_refl _)).lt
      have y4 := (i4.below hb4 (Nat.le_refl _)).lt
      clear v1 v2 v3 v4 i1 i2 i3 i4 hr3 hq3
      obtain ⟨v1, v2, _, _⟩ := l1.both
      obtain ⟨v3, v4, _, _⟩ := l2.both
      have z1 := l1.lt
      have z2 := l2.lt
      have hbel4 := below_alloc (below_trans hbel3 hb4) (Nat.le_refl _) (.cells #[.bool sq, .slice A4 (dig (val xs / val ys)).length c4] 30)
      clear hb4 hbel3 hq4
      go_wp2_with fail
      refine (made_ok _ B3 d3 (dig (val xs % val ys)) _ hr4 (Nat.le_trans HL.out.2 (by decide))).mono ?_
      generalize (!n && decide ((dig (val xs % val ys)) ≠ [])) = sr at *
      rintro e w5 ⟨⟨B5, d5, rfl, hr5⟩, hb5⟩
      have o3 := (l3.below hb5 (Nat.le_refl _)).alloc (.cells #[.bool sr, .slice B5 (dig (val xs % val ys)).length d5] 30)
      have o4 := (l4.below hb5 (Nat.le_refl _)).alloc (.cells #[.bool sr, .slice B5 (dig (val xs % val ys)).length d5] 30)
      have ox := (kx.below hb5 (Nat.le_refl _)).alloc (.cells #[.bool sr, .slice B5 (dig (val xs % val ys)).length d5] 30)
      have oy := Blk.new w5 30 #[.bool sr, .slice B5 (dig (val xs % val ys)).length d5]
      have hq5 := (hq4'.below hb5 (Nat.le_refl _)).alloc (.cells #[.bool sr, .slice B5 (dig (val xs % val ys)).length d5] 30)
      have hr5' := hr5.alloc (.cells #[.bool sr, .slice B5 (dig (val xs % val ys)).length d5] 30)
      have hbel5 := below_alloc (below_trans hbel4 hb5) (Nat.le_refl _) (.cells #[.bool sr, .slice B5 (dig (val xs % val ys)).length d5] 30)
      have x3 := (l3.below hb5 (Nat.le_refl _)).lt
      have x4 := (l4.below hb5 (Nat.le_refl _)).lt
      have xx := (kx.below hb5 (Nat.le_refl _)).lt
      clear l1 l2 l3 l4 kx hr4 hq4' hb5 hbel4 v1 v2 v3 v4 hr5
      have e1 : ¬ w.heap.size + 1 + 1 = w5.heap.size := by omega
      have e2 : ¬ w.heap.size + 1 + 1 + 1 = w5.heap.size := by omega
      have e3 : ¬ w.heap.size + 1 + 1 = w4.heap.size := by omega
      have e4 : ¬ w.heap.size + 1 + 1 + 1 = w4.heap.size := by omega
      have e5 : ¬ w5.heap.size = w.heap.size + 1 + 1 := by omega
      have e6 : ¬ w5.heap.size = w.heap.size + 1 + 1 + 1 := by omega
      have e7 : ¬ w4.heap.size = w.heap.size + 1 + 1 := by omega
      have e8 : ¬ w4.heap.size = w.heap.size + 1 + 1 + 1 := by omega
      clear x3 x4 xx y3 y4 z1 z2
      go_wp2_with fail
      generalize w5.heap.size = gy at *
      generalize w4.heap.size = gx at *
      generalize w5.alloc (.cells #[.bool sr, .slice B5 (dig (val xs % val ys)).length d5] 30) = W at *
      obtain ⟨v1, v2, v3, v4⟩ := o3.both
      obtain ⟨v5, v6, v7, v8⟩ := o4.both
      obtain ⟨v9, v10, v11, v12⟩ := ox.both
      obtain ⟨v13, v14, v15, v16⟩ := oy.both
      go_region
      have p3 := (o3.put (.bool sq) (.slice A4 (dig (val xs / val ys)).length c4)).away (k := w.heap.size + 1 + 1 + 1) (by omega) (.bool sr) (.slice B5 (dig (val xs % val ys)).length d5)
      have p4 := (o4.away (k := w.heap.size + 1 + 1) (by omega) (.bool sq) (.slice A4 (dig (val xs / val ys)).length c4)).put (.bool sr) (.slice B5 (dig (val xs % val ys)).length d5)
      obtain ⟨u1, u2, _, _⟩ := p3.both
      obtain ⟨u3, u4, _, _⟩ := p4.both
      have hq6 := (hq5.put o3.ib sq (.slice A4 (dig (val xs / val ys)).length c4)).put (o4.away (k := w.heap.size + 1 + 1) (by omega) (.bool sq) (.slice A4 (dig (val xs / val ys)).length c4)).ib sr (.slice B5 (dig (val xs % val ys)).length d5)
      have hr6 := (hr5'.put o3.ib sq (.slice A4 (dig (val xs / val ys)).length c4)).put (o4.away (k := w.heap.size + 1 + 1) (by omega) (.bool sq) (.slice A4 (dig (val xs / val ys)).length c4)).ib sr (.slice B5 (dig (val xs % val ys)).length d5)
      have hbel6 := below_put (below_put hbel5 (by omega) (.bool sq) (.slice A4 (dig (val xs / val ys)).length c4) (g := w.heap.size + 1 + 1)) (by omega) (.bool sr) (.slice B5 (dig (val xs % val ys)).length d5) (g := w.heap.size + 1 + 1 + 1)
      clear v1 v2 v3 v4 v5 v6 v7 v8 v9 v10 v11 v12 v13 v14 v15 v16 o3 o4 ox oy hq5 hr5' hbel5 p3 p4
      go_wp2
      rw [HE.out]
      exact bodyPost_ret (v := .tuple #[iv sq A4 (dig (val xs / val ys)).length c4, iv sr B5 (dig (val xs % val ys)).length d5, .int .i64 0]) (by simp [results, Try.results35, go_sem, u1, u2, u3, u4]) rfl ⟨⟨A4, c4, B5, d5, rfl, hq6.drew, hr6.drew⟩, hbel6.trans ((Read.refl _).drew.below _)⟩
    · have hr0 : 0 < (dig (val xs % val ys)).length := List.length_pos_iff.2 h4
      have EA : Hid (addR (dig (val xs / val ys)) (dig 1) = fitR (val xs / val ys + 1)) := by
        unfold Hid
        rw [addR_eq (right_dig' (len_dig_sub ha.ok (sright_rightB h1) _ (Nat.div_le_self _ _))) (right_dig' (by decide)), val_dig, val_dig]
      have hyp := val_pos_right hb.ok (sright_rightB h2) hy
      have ES : Hid (subR ys (dig (val xs % val ys)) = (dig (val ys - val xs % val ys), 0)) := by
        have hm := Nat.mod_lt (val xs) hyp
        unfold Hid
        rw [subR_eq (sright_rightB h2) (right_dig' (len_dig_sub ha.ok (sright_rightB h1) _ (Nat.mod_le _ _))) (by rw [val_dig]; omega), val_dig]
      by_cases hbig : (dig (val xs / val ys + 1)).length ≤ 256
      · have HE := Lib.hid ((sdiv_down hb.ok h1 h2 hy h4).trans (if_pos hbig))
        have HL : Hid ((dig (val xs / val ys + 1)).length ≤ 256 ∧ (dig (val ys - val xs % val ys)).length ≤ 256) := ⟨hbig, len_dig_sub hb.ok (sright_rightB h2) _ (Nat.sub_le _ _)⟩
        have HF := Lib.hid (fitR_le hbig)
        clear h1 h2 hnm hy h4 hyp hbig
        go_enter Try.func35, Try.ntmps35
        go_wp2_with fail
        refine (both_any _ _ A B c d xs ys _ ha0 hy0).mono ?_
        rintro e w2 ⟨rfl, hb2⟩
        rw [H1.out]
        have j1 := k1.below hb2 (Nat.le_refl _)
        have j2 := k2.below hb2 (Nat.le_refl _)
        have j3 := k3.below hb2 (Nat.le_refl _)
        have j4 := k4.below hb2 (Nat.le_refl _)
        obtain ⟨v1, v2, _, _⟩ := j1.both
        obtain ⟨v3, v4, _, _⟩ := j2.both
        have ha2 := ha0.below hb2 (Nat.le_refl _)
        have hy2 := hy0.below hb2 (Nat.le_refl _)
        have hbel := below_trans hb0 hb2
        clear hb2 k1 k2 k3 k4 ha0 hy0 hb0
        go_wp2_with fail
        refine (divmod_any A B c d xs ys w2 ha2 hy2).mono ?_
        rintro e w3 ⟨⟨A3, c3, B3, d3, rfl, hq3, hr3⟩, hb3⟩
        rw [HD.out] at hq3 hr3 ⊢
        have hy3 := hy2.below hb3 (Nat.le_refl _)
        have i1 := j1.below hb3 (Nat.le_refl _)
        have i2 := j2.below hb3 (Nat.le_refl _)
        have i3 := j3.below hb3 (Nat.le_refl _)
        have i4 := j4.below hb3 (Nat.le_refl _)
        clear v1 v2 v3 v4 j1 j2 j3 j4
        obtain ⟨v1, v2, _, _⟩ := i1.both
        obtain ⟨v3, v4, _, _⟩ := i2.both
        have hbel3 := below_trans hbel hb3
        clear hb3 hbel ha2 hy2
        go_wp2_with fail
        refine (of_any 1 w3 (by decide)).mono ?_
        rintro e w4 ⟨⟨A4, c4, rfl, h14⟩, hb4⟩
        go_wp2_with fail
        refine (add_any A3 A4 c3 c4 _ (dig 1) w4 (hq3.below hb4 (Nat.le_refl _)) h14).mono ?_
        rintro e w5 ⟨⟨A5, c5, rfl, hq5⟩, hb5⟩
        rw [EA.out] at hq5 ⊢
        have hb35 := below_trans hb4 hb5
        have hy5 := hy3.below hb35 (Nat.le_refl _)
        have hr5 := hr3.below hb35 (Nat.le_refl _)
        have i1' := i1.below hb35 (Nat.le_refl _)
        have i2' := i2.below hb35 (Nat.le_refl _)
        have i3' := i3.below hb35 (Nat.le_refl _)
        have i4' := i4.below hb35 (Nat.le_refl _)
        have hbel5 := below_trans hbel3 hb35
        clear hb4 hb5 hb35 h14 hq3 hy3 hr3 i1 i2 i3 i4 hbel3 v1 v2 v3 v4
        obtain ⟨v1, v2, _, _⟩ := i1'.both
        obtain ⟨v3, v4, _, _⟩ := i2'.both
        rw [HF.out] at hq5 ⊢
        go_wp2_with fail
        refine (sub_any B B3 d d3 ys _ w5 hy5 hr5).mono ?_
        rintro e w3 ⟨⟨B3, d3, rfl, hr3⟩, hb3⟩
        rw [ES.out] at hr3 ⊢
        have i1 := i1'.below hb3 (Nat.le_refl _)
        have i2 := i2'.below hb3 (Nat.le_refl _)
        have i3 := i3'.below hb3 (Nat.le_refl _)
        have i4 := i4'.below hb3 (Nat.le_refl _)
        have hq3 := hq5.below hb3 (Nat.le_refl _)
        have hbel3 := below_trans hbel5 hb3
        clear hb3 hbel5 hy5 hr5 hq5 i1' i2' i3' i4' v1 v2 v3 v4
        obtain ⟨v1, v2, _, _⟩ := i1.both
        obtain ⟨v3, v4, _, _⟩ := i2.both
        go_wp2_with fail
        refine (made_ok _ A5 c5 (dig (val xs / val ys + 1)) w3 hq3 (Nat.le_trans HL.out.1 (by decide))).mono ?_
        generalize (true && decide ((dig (val xs / val ys + 1)) ≠ [])) = sq at *
        rintro e w4 ⟨⟨A4, c4, rfl, hq4⟩, hb4⟩
        have kx := Blk.new w4 30 #[.bool sq, .slice A4 (dig (val xs / val ys + 1)).length c4]
        have hq4' := hq4.alloc (.cells #[.bool sq, .slice A4 (dig (val xs / val ys + 1)).length c4] 30)
        have hr4 := (hr3.below hb4 (Nat.le_refl _)).alloc (.cells #[.bool sq, .slice A4 (dig (val xs / val ys + 1)).length c4] 30)
        have l1 := i1.below hb4 (Nat.le_refl _)
        have l2 := i2.below hb4 (Nat.le_refl _)
        have l3 := (i3.below hb4 (Nat.le_refl _)).alloc (.cells #[.bool sq, .slice A4 (dig (val xs / val ys + 1)).length c4] 30)
        have l4 := (i4.below hb4 (Nat.le_refl _)).alloc (.cells #[.bool sq, .slice A4 (dig (val xs / val ys + 1)).length c4] 30)
        have y3 := (i3.below hb4 (Nat.le_refl _)).lt
        have y4 := (i4.below hb4 (Nat.le_refl _)).lt
        clear v1 v2 v3 v4 i1 i2 i3 i4 hr3 hq3
        obtain ⟨v1, v2, _, _⟩ := l1.both
        obtain ⟨v3, v4, _, _⟩ := l2.both
        have z1 := l1.lt
        have z2 := l2.lt
        have hbel4 := below_alloc (below_trans hbel3 hb4) (Nat.le_refl _) (.cells #[.bool sq, .slice A4 (dig (val xs / val ys + 1)).length c4] 30)
        clear hb4 hbel3 hq4
        go_wp2_with fail
        refine (made_ok _ B3 d3 (dig (val ys - val xs % val ys)) _ hr4 (Nat.le_trans HL.out.2 (by decide))).mono ?_
        generalize (!n && decide ((dig (val ys - val xs % val ys)) ≠ [])) = sr at *
        rintro e w5 ⟨⟨B5, d5, rfl, hr5⟩, hb5⟩
        have o3 := (l3.below hb5 (Nat.le_refl _)).alloc (.cells #[.bool sr, .slice B5 (dig (val ys - val xs % val ys)).length d5] 30)
        have o4 := (l4.below hb5 (Nat.le_refl _)).alloc (.cells #[.bool sr, .slice B5 (dig (val ys - val xs % val ys)).length d5] 30)
        have ox := (kx.below hb5 (Nat.le_refl _)).alloc (.cells #[.bool sr, .slice B5 (dig (val ys - val xs % val ys)).length d5] 30)
        have oy := Blk.new w5 30 #[.bool sr, .slice B5 (dig (val ys - val xs % val ys)).length d5]
        have hq5 := (hq4'.below hb5 (Nat.le_refl _)).alloc (.cells #[.bool sr, .slice B5 (dig (val ys - val xs % val ys)).length d5] 30)
        have hr5' := hr5.alloc (.cells #[.bool sr, .slice B5 (dig (val ys - val xs % val ys)).length d5] 30)
        have hbel5 := below_alloc (below_trans hbel4 hb5) (Nat.le_refl _) (.cells #[.bool sr, .slice B5 (dig (val ys - val xs % val ys)).length d5] 30)
        have x3 := (l3.below hb5 (Nat.le_refl _)).lt
        have x4 := (l4.below hb5 (Nat.le_refl _)).lt
        have xx := (kx.below hb5 (Nat.le_refl _)).lt
        clear l1 l2 l3 l4 kx hr4 hq4' hb5 hbel4 v1 v2 v3 v4 hr5
        have e1 : ¬ w.heap.size + 1 + 1 = w5.heap.size := by omega
        have e2 : ¬ w.heap.size + 1 + 1 + 1 = w5.heap.size := by omega
        have e3 : ¬ w.heap.size + 1 + 1 = w4.heap.size := by omega
        have e4 : ¬ w.heap.size + 1 + 1 + 1 = w4.heap.size := by omega
        have e5 : ¬ w5.heap.size = w.heap.size + 1 + 1 := by omega
        have e6 : ¬ w5.heap.size = w.heap.size + 1 + 1 + 1 := by omega
        have e7 : ¬ w4.heap.size = w.heap.size + 1 + 1 := by omega
        have e8 : ¬ w4.heap.size = w.heap.size + 1 + 1 + 1 := by omega
        clear x3 x4 xx y3 y4 z1 z2
        go_wp2_with fail
        generalize w5.heap.size = gy at *
        generalize w4.heap.size = gx at *
        generalize w5.alloc (.cells #[.bool sr, .slice B5 (dig (val ys - val xs % val ys)).length d5] 30) = W at *
        obtain ⟨v1, v2, v3, v4⟩ := o3.both
        obtain ⟨v5, v6, v7, v8⟩ := o4.both
        obtain ⟨v9, v10, v11, v12⟩ := ox.both
        obtain ⟨v13, v14, v15, v16⟩ := oy.both
        go_region
        have p3 := (o3.put (.bool sq) (.slice A4 (dig (val xs / val ys + 1)).length c4)).away (k := w.heap.size + 1 + 1 + 1) (by omega) (.bool sr) (.slice B5 (dig (val ys - val xs % val ys)).length d5)
        have p4 := (o4.away (k := w.heap.size + 1 + 1) (by omega) (.bool sq) (.slice A4 (dig (val xs / val ys + 1)).length c4)).put (.bool sr) (.slice B5 (dig (val ys - val xs % val ys)).length d5)
        obtain ⟨u1, u2, _, _⟩ := p3.both
        obtain ⟨u3, u4, _, _⟩ := p4.both
        have hq6 := (hq5.put o3.ib sq (.slice A4 (dig (val xs / val ys + 1)).length c4)).put (o4.away (k := w.heap.size + 1 + 1) (by omega) (.bool sq) (.slice A4 (dig (val xs / val ys + 1)).length c4)).ib sr (.slice B5 (dig (val ys - val xs % val ys)).length d5)
        have hr6 := (hr5'.put o3.ib sq (.slice A4 (dig (val xs / val ys + 1)).length c4)).put (o4.away (k := w.heap.size + 1 + 1) (by omega) (.bool sq) (.slice A4 (dig (val xs / val ys + 1)).length c4)).ib sr (.slice B5 (dig (val ys - val xs % val ys)).length d5)
        have hbel6 := below_put (below_put hbel5 (by omega) (.bool sq) (.slice A4 (dig (val xs / val ys + 1)).length c4) (g := w.heap.size + 1 + 1)) (by omega) (.bool sr) (.slice B5 (dig (val ys - val xs % val ys)).length d5) (g := w.heap.size + 1 + 1 + 1)
        clear v1 v2 v3 v4 v5 v6 v7 v8 v9 v10 v11 v12 v13 v14 v15 v16 o3 o4 ox oy hq5 hr5' hbel5 p3 p4
        go_wp2
        rw [HE.out]
        exact bodyPost_ret (v := .tuple #[iv sq A4 (dig (val xs / val ys + 1)).length c4, iv sr B5 (dig (val ys - val xs % val ys)).length d5, .int .i64 0]) (by simp [results, Try.results35, go_sem, u1, u2, u3, u4]) rfl ⟨⟨A4, c4, B5, d5, rfl, hq6.drew, hr6.drew⟩, hbel6.trans ((Read.refl _).drew.below _)⟩
      · have HE := Lib.hid ((sdiv_down hb.ok h1 h2 hy h4).trans (if_neg hbig))
        have HF : Hid (fitR (val xs / val ys + 1) = ([], 3)) := by unfold Hid fitR; rw [if_neg hbig]
        clear h1 h2 hnm hy h4 hyp hbig
        go_enter Try.func35, Try.ntmps35
        go_wp2_with fail
        refine (both_any _ _ A B c d xs ys _ ha0 hy0).mono ?_
        rintro e w2 ⟨rfl, hb2⟩
        rw [H1.out]
        have j1 := k1.below hb2 (Nat.le_refl _)
        have j2 := k2.below hb2 (Nat.le_refl _)
        have j3 := k3.below hb2 (Nat.le_refl _)
        have j4 := k4.below hb2 (Nat.le_refl _)
        obtain ⟨v1, v2, _, _⟩ := j1.both
        obtain ⟨v3, v4, _, _⟩ := j2.both
        have ha2 := ha0.below hb2 (Nat.le_refl _)
        have hy2 := hy0.below hb2 (Nat.le_refl _)
        have hbel := below_trans hb0 hb2
        clear hb2 k1 k2 k3 k4 ha0 hy0 hb0
        go_wp2_with fail
        refine (divmod_any A B c d xs ys w2 ha2 hy2).mono ?_
        rintro e w3 ⟨⟨A3, c3, B3, d3, rfl, hq3, hr3⟩, hb3⟩
        rw [HD.out] at hq3 hr3 ⊢
        have hy3 := hy2.below hb3 (Nat.le_refl _)
        have i1 := j1.below hb3 (Nat.le_refl _)
        have i2 := j2.below hb3 (Nat.le_refl _)
        have i3 := j3.below hb3 (Nat.le_refl _)
        have i4 := j4.below hb3 (Nat.le_refl _)
        clear v1 v2 v3 v4 j1 j2 j3 j4
        obtain ⟨v1, v2, _, _⟩ := i1.both
        obtain ⟨v3, v4, _, _⟩ := i2.both
        have hbel3 := below_trans hbel hb3
        clear hb3 hbel ha2 hy2
        go_wp2_with fail
        refine (of_any 1 w3 (by decide)).mono ?_
        rintro e w4 ⟨⟨A4, c4, rfl, h14⟩, hb4⟩
        go_wp2_with fail
        refine (add_any A3 A4 c3 c4 _ (dig 1) w4 (hq3.below hb4 (Nat.le_refl _)) h14).mono ?_
        rintro e w5 ⟨⟨A5, c5, rfl, hq5⟩, hb5⟩
        rw [EA.out] at hq5 ⊢
        have hb35 := below_trans hb4 hb5
        have hy5 := hy3.below hb35 (Nat.le_refl _)
        have hr5 := hr3.below hb35 (Nat.le_refl _)
        have i1' := i1.below hb35 (Nat.le_refl _)
        have i2' := i2.below hb35 (Nat.le_refl _)
        have i3' := i3.below hb35 (Nat.le_refl _)
        have i4' := i4.below hb35 (Nat.le_refl _)
        have hbel5 := below_trans hbel3 hb35
        clear hb4 hb5 hb35 h14 hq3 hy3 hr3 i1 i2 i3 i4 hbel3 v1 v2 v3 v4
        obtain ⟨v1, v2, _, _⟩ := i1'.both
        obtain ⟨v3, v4, _, _⟩ := i2'.both
        rw [HF.out] at hq5 ⊢
        have j3 := i3'
        have j4 := i4'
        have hbel := hbel5
        go_wp2_with (first | ((with_reducible show wpList _ _ _ (Oper.mk none (Op.store _ _ _) _ _ _ _ :: _) _ _); refine wp_put (o := ⟨none, .store _ _ _, _, _, _, _⟩) _ _ j3 rfl rfl rfl rfl info_int rfl rfl ?_; intro wA a3 gA; have a4 := j4.turn gA (by omega); have hbelA := below_grown hbel gA hbel.size (by omega)) | ((with_reducible show wpList _ _ _ (Oper.mk none (Op.store _ _ _) _ _ _ _ :: _) _ _); refine wp_put (o := ⟨none, .store _ _ _, _, _, _, _⟩) _ _ a4 rfl rfl rfl rfl info_int rfl rfl ?_; intro wB b4 gB; have b3 := a3.turn gB (by omega); have hbelB := below_grown hbelA gB hbelA.size (by omega); obtain ⟨v5, v6, _, _⟩ := b3.both; obtain ⟨v7, v8, _, _⟩ := b4.both))
        rw [HE.out]
        exact bodyPost_ret (v := .tuple #[iv false none 0 0, iv false none 0 0, .int .i64 3]) (by simp [results, Try.results35, go_sem, v5, v6, v7, v8]) rfl ⟨⟨none, 0, none, 0, rfl, Rd.nil, Rd.nil⟩, hbelB⟩
end Go.Proofs.Ytlmgdhdakeekkaa

/-
  Contract of touchstoneref03.DivMod.
  Contract of touchstoneref03.Gcd.
-/
import Derived.Test.YtdhikpfppbcjkaaSgD
set_option linter.unusedSimpArgs false
set_option linter.unusedVariables false
namespace Go.Proofs.Ytdhikpfppbcjkaa
open Go.RowKit Num

set_option maxRecDepth 100000 in
set_option maxHeartbeats 1000000 in
theorem rsdivmod_any (n m : Bool) (A B : Option Addr) (c d : Nat) (xs ys : List Nat) (w : World) (ha : Rd w A c xs) (hb : Rd w B d ys) :
    Calls Try.prog 54 #[iv n A xs.length c, iv m B ys.length d] w fun e w' => RetII w w' e (sdivR n xs m ys) := by
  have ha0 := (((ha.alloc (.cells #[.bool n, .slice A xs.length c] 24)).alloc (.cells #[.bool m, .slice B ys.length d] 24)).alloc (.cells #[.bool false, .slice none 0 0] 24)).alloc (.cells #[.bool false, .slice none 0 0] 24)
  have hy0 := (((hb.alloc (.cells #[.bool n, .slice A xs.length c] 24)).alloc (.cells #[.bool m, .slice B ys.length d] 24)).alloc (.cells #[.bool false, .slice none 0 0] 24)).alloc (.cells #[.bool false, .slice none 0 0] 24)
  have hb0 := below_alloc (below_alloc (below_alloc (below_alloc1 w (.cells #[.bool n, .slice A xs.length c] 24)) (Nat.le_refl _) (.cells #[.bool m, .slice B ys.length d] 24)) (Nat.le_refl _) (.cells #[.bool false, .slice none 0 0] 24)) (Nat.le_refl _) (.cells #[.bool false, .slice none 0 0] 24)
  have k1 : Blk ((((w.alloc (.cells #[.bool n, .slice A xs.length c] 24)).alloc (.cells #[.bool m, .slice B ys.length d] 24)).alloc (.cells #[.bool false, .slice none 0 0] 24)).alloc (.cells #[.bool false, .slice none 0 0] 24)) (w.heap.size) _ _ := (((Blk.new w 24 #[.bool n, .slice A xs.length c]).alloc _).alloc _).alloc _
  have k2 : Blk ((((w.alloc (.cells #[.bool n, .slice A xs.length c] 24)).alloc (.cells #[.bool m, .slice B ys.length d] 24)).alloc (.cells #[.bool false, .slice none 0 0] 24)).alloc (.cells #[.bool false, .slice none 0 0] 24)) (w.heap.size + 1) _ _ := ((Blk.at_ (by simp)).alloc _).alloc _
  have k3 : Blk ((((w.alloc (.cells #[.bool n, .slice A xs.length c] 24)).alloc (.cells #[.bool m, .slice B ys.length d] 24)).alloc (.cells #[.bool false, .slice none 0 0] 24)).alloc (.cells #[.bool false, .slice none 0 0] 24)) (w.heap.size + 1 + 1) _ _ := (Blk.at_ (by simp)).alloc _
  have k4 : Blk ((((w.alloc (.cells #[.bool n, .slice A xs.length c] 24)).alloc (.cells #[.bool m, .slice B ys.length d] 24)).alloc (.cells #[.bool false, .slice none 0 0] 24)).alloc (.cells #[.bool false, .slice none 0 0] 24)) (w.heap.size + 1 + 1 + 1) _ _ := Blk.at_ (by simp)
  rcases Bool.eq_false_or_eq_true (sright n xs) with h1 | h1
  case inr =>
    have HE := Lib.hid (sdivR_no (n := n) (m := m) (xs := xs) (ys := ys) (by rw [h1]; rfl))
    have H1 := Lib.hid h1
    clear h1
    go_enter Try.func54, Try.ntmps54
    go_wp2_with fail
    refine (srright_any _ A c xs _ ha0).mono ?_
    rintro e w2 ⟨rfl, hb2⟩
    rw [H1.out]
    have j1 := k1.below hb2 (Nat.le_refl _)
    have j2 := k2.below hb2 (Nat.le_refl _)
    have j3 := k3.below hb2 (Nat.le_refl _)
    have j4 := k4.below hb2 (Nat.le_refl _)
    obtain ⟨v1, v2, _, _⟩ := j1.both
    obtain ⟨v3, v4, _, _⟩ := j2.both
    have ha2 := ha0.below hb2 (Nat.le_refl _)
    have hy2 := hy0.below hb2 (Nat.le_refl _)
    have hbel := below_trans hb0 hb2
    clear hb2 k1 k2 k3 k4 ha0 hy0 hb0
    go_wp2_with (first | ((with_reducible show wpList _ _ _ (Oper.mk none (Op.store _ _ _) _ _ _ _ :: _) _ _); refine wp_put (o := ⟨none, .store _ _ _, _, _, _, _⟩) _ _ j3 rfl rfl rfl rfl info_rint rfl rfl ?_; intro wA a3 gA; have a4 := (j4).turn gA (by omega); have hbelA := below_grown hbel gA (hbel).size (by omega)) | ((with_reducible show wpList _ _ _ (Oper.mk none (Op.store _ _ _) _ _ _ _ :: _) _ _); refine wp_put (o := ⟨none, .store _ _ _, _, _, _, _⟩) _ _ a4 rfl rfl rfl rfl info_rint rfl rfl ?_; intro wB b4 gB; have b3 := a3.turn gB (by omega); have hbelB := below_grown hbelA gB hbelA.size (by omega); obtain ⟨v5, v6, _, _⟩ := b3.both; obtain ⟨v7, v8, _, _⟩ := b4.both))
    rw [HE.out]
    exact bodyPost_ret (v := .tuple #[iv false none 0 0, iv false none 0 0, .int .i64 2]) (by simp [results, Try.results54, go_sem, v5, v6, v7, v8]) rfl ⟨⟨none, 0, none, 0, rfl, Rd.nil, Rd.nil⟩, hbelB⟩
  rcases Bool.eq_false_or_eq_true (sright m ys) with h2 | h2
  case inr =>
    have HE := Lib.hid (sdivR_no (n := n) (m := m) (xs := xs) (ys := ys) (by rw [h1, h2]; rfl))
    have H1 := Lib.hid h1
    have H2 := Lib.hid h2
    clear h1 h2
    go_enter Try.func54, Try.ntmps54
    go_wp2_with fail
    refine (srright_any _ A c xs _ ha0).mono ?_
    rintro e w2 ⟨rfl, hb2⟩
    rw [H1.out]
    have j1 := k1.below hb2 (Nat.le_refl _)
    have j2 := k2.below hb2 (Nat.le_refl _)
    have j3 := k3.below hb2 (Nat.le_refl _)
    have j4 := k4.below hb2 (Nat.le_refl _)
    obtain ⟨v1, v2, _, _⟩ := j1.both
    obtain ⟨v3, v4, _, _⟩ := j2.both
    have ha2 := ha0.below hb2 (Nat.le_refl _)
    have hy2 := hy0.below hb2 (Nat.le_refl _)
    have hbel := below_trans hb0 hb2
    clear hb2 k1 k2 k3 k4 ha0 hy0 hb0
    go_wp2_with fail
    refine (srright_any _ B d ys _ hy2).mono ?_
    rintro e w3 ⟨rfl, hb3⟩
    rw [H2.out]
    have i1 := j1.below hb3 (Nat.le_refl _)
    have i2 := j2.below hb3 (Nat.le_refl _)
    have i3 := j3.below hb3 (Nat.le_refl _)
    have i4 := j4.below hb3 (Nat.le_refl _)
    clear v1 v2 v3 v4
    obtain ⟨v1, v2, _, _⟩ := i1.both
    obtain ⟨v3, v4, _, _⟩ := i2.both
    have ha3 := ha2.below hb3 (Nat.le_refl _)
    have hy3 := hy2.below hb3 (Nat.le_refl _)
    have hbel3 := below_trans hbel hb3
    clear hb3 hbel ha2 hy2 j1 j2 j3 j4
    go_wp2_with (first | ((with_reducible show wpList _ _ _ (Oper.mk none (Op.store _ _ _) _ _ _ _ :: _) _ _); refine wp_put (o := ⟨none, .store _ _ _, _, _, _, _⟩) _ _ i3 rfl rfl rfl rfl info_rint rfl rfl ?_; intro wA a3 gA; have a4 := (i4).turn gA (by omega); have hbelA := below_grown hbel3 gA (hbel3).size (by omega)) | ((with_reducible show wpList _ _ _ (Oper.mk none (Op.store _ _ _) _ _ _ _ :: _) _ _); refine wp_put (o := ⟨none, .store _ _ _, _, _, _, _⟩) _ _ a4 rfl rfl rfl rfl info_rint rfl rfl ?_; intro wB b4 gB; have b3 := a3.turn gB (by omega); have hbelB := below_grown hbelA gB hbelA.size (by omega); obtain ⟨v5, v6, _, _⟩ := b3.both; obtain ⟨v7, v8, _, _⟩ := b4.both))
    rw [HE.out]
    exact bodyPost_ret (v := .tuple #[iv false none 0 0, iv false none 0 0, .int .i64 2]) (by simp [results, Try.results54, go_sem, v5, v6, v7, v8]) rfl ⟨⟨none, 0, none, 0, rfl, Rd.nil, Rd.nil⟩, hbelB⟩
  have H1 := Lib.hid h1
  have H2 := Lib.hid h2
  have hly := hb.len
  by_cases hy : ys = []
  · have HE := Lib.hid (sdivR_no (n := n) (m := m) (xs := xs) (ys := ys) (by rw [h1, h2, hy]; rfl))
    have hyl : ((ys.length : Int) == 0) = true := by rw [hy]; rfl
    have hyl2 : ys.length ≤ 0 := by rw [hy]; exact Nat.le_refl _
    clear h1 h2 hy
    go_enter Try.func54, Try.ntmps54
    go_wp2_with fail
    refine (srright_any _ A c xs _ ha0).mono ?_
    rintro e w2 ⟨rfl, hb2⟩
    rw [H1.out]
    have j1 := k1.below hb2 (Nat.le_refl _)
    have j2 := k2.below hb2 (Nat.le_refl _)
    have j3 := k3.below hb2 (Nat.le_refl _)
    have j4 := k4.below hb2 (Nat.le_refl _)
    obtain ⟨v1, v2, _, _⟩ := j1.both
    obtain ⟨v3, v4, _, _⟩ := j2.both
    have ha2 := ha0.below hb2 (Nat.le_refl _)
    have hy2 := hy0.below hb2 (Nat.le_refl _)
    have hbel := below_trans hb0 hb2
    clear hb2 k1 k2 k3 k4 ha0 hy0 hb0
    go_wp2_with fail
    refine (srright_any _ B d ys _ hy2).mono ?_
    rintro e w3 ⟨rfl, hb3⟩
    rw [H2.out]
    have i1 := j1.below hb3 (Nat.le_refl _)
    have i2 := j2.below hb3 (Nat.le_refl _)
    have i3 := j3.below hb3 (Nat.le_refl _)
    have i4 := j4.below hb3 (Nat.le_refl _)
    clear v1 v2 v3 v4
    obtain ⟨v1, v2, _, _⟩ := i1.both
    obtain ⟨v3, v4, _, _⟩ := i2.both
    have ha3 := ha2.below hb3 (Nat.le_refl _)
    have hy3 := hy2.below hb3 (Nat.le_refl _)
    have hbel3 := below_trans hbel hb3
    clear hb3 hbel ha2 hy2 j1 j2 j3 j4
    go_wp2_with (first | ((with_reducible show wpList _ _ _ (Oper.mk none (Op.store _ _ _) _ _ _ _ :: _) _ _); refine wp_put (o := ⟨none, .store _ _ _, _, _, _, _⟩) _ _ i3 rfl rfl rfl rfl info_rint rfl rfl ?_; intro wA a3 gA; have a4 := (i4).turn gA (by omega); have hbelA := below_grown hbel3 gA (hbel3).size (by omega)) | ((with_reducible show wpList _ _ _ (Oper.mk none (Op.store _ _ _) _ _ _ _ :: _) _ _); refine wp_put (o := ⟨none, .store _ _ _, _, _, _, _⟩) _ _ a4 rfl rfl rfl rfl info_rint rfl rfl ?_; intro wB b4 gB; have b3 := a3.turn gB (by omega); have hbelB := below_grown hbelA gB hbelA.size (by omega); obtain ⟨v5, v6, _, _⟩ := b3.both; obtain ⟨v7, v8, _, _⟩ := b4.both))
    rw [HE.out]
    exact bodyPost_ret (v := .tuple #[iv false none 0 0, iv false none 0 0, .int .i64 2]) (by simp [results, Try.results54, go_sem, v5, v6, v7, v8]) rfl ⟨⟨none, 0, none, 0, rfl, Rd.nil, Rd.nil⟩, hbelB⟩
  have hyl : ((ys.length : Int) == 0) = false := len_zero_b hy
  have HD := Lib.hid (divR_eq (sright_rightB h1) (sright_rightB h2) hy)
  rcases Bool.eq_false_or_eq_true (n == m) with hnm | hnm
  · obtain rfl : n = m := by simpa using hnm
    have HE := Lib.hid (sdiv_same ha.ok hb.ok h1 h2 hy)
    clear h1 h2 hnm hy
    go_enter Try.func54, Try.ntmps54
    go_wp2_with fail
    refine (srright_any _ A c xs _ ha0).mono ?_
    rintro e w2 ⟨rfl, hb2⟩
    rw [H1.out]
    have j1 := k1.below hb2 (Nat.le_refl _)
    have j2 := k2.below hb2 (Nat.le_refl _)
    have j3 := k3.below hb2 (Nat.le_refl _)
    have j4 := k4.below hb2 (Nat.le_refl _)
    obtain ⟨v1, v2, _, _⟩ := j1.both
    obtain ⟨v3, v4, _, _⟩ := j2.both
    have ha2 := ha0.below hb2 (Nat.le_refl _)
    have hy2 := hy0.below hb2 (Nat.le_refl _)
    have hbel := below_trans hb0 hb2
    clear hb2 k1 k2 k3 k4 ha0 hy0 hb0
    go_wp2_with fail
    refine (srright_any _ B d ys _ hy2).mono ?_
    rintro e w3 ⟨rfl, hb3⟩
    rw [H2.out]
    have i1 := j1.below hb3 (Nat.le_refl _)
    have i2 := j2.below hb3 (Nat.le_refl _)
    have i3 := j3.below hb3 (Nat.le_refl _)
    have i4 := j4.below hb3 (Nat.le_refl _)
    clear v1 v2 v3 v4
    obtain ⟨v1, v2, _, _⟩ := i1.both
    obtain ⟨v3, v4, _, _⟩ := i2.both
    have ha3 := ha2.below hb3 (Nat.le_refl _)
    have hy3 := hy2.below hb3 (Nat.le_refl _)
    have hbel3 := below_trans hbel hb3
    clear hb3 hbel ha2 hy2 j1 j2 j3 j4
    go_wp2_with fail
    refine (rdivmod_any A B c d xs ys w3 ha3 hy3).mono ?_
    rintro e w4 ⟨⟨A3, c3, B3, d3, rfl, hq4, hr4⟩, hb4⟩
    rw [HD.out] at hq4 hr4 ⊢
    have l1 := i1.below hb4 (Nat.le_refl _)
    have l2 := i2.below hb4 (Nat.le_refl _)
    have l3 := i3.below hb4 (Nat.le_refl _)
    have l4 := i4.below hb4 (Nat.le_refl _)
    clear v1 v2 v3 v4
    obtain ⟨v1, v2, _, _⟩ := l1.both
    obtain ⟨v3, v4, _, _⟩ := l2.both
    have hy4 := hy3.below hb4 (Nat.le_refl _)
    have hbel4 := below_trans hbel3 hb4
    clear hb4 hbel3 ha3 hy3 i1 i2 i3 i4
    go_wp2_with fail
    go_region_held3 (fun w' => w'.cell? ⟨w.heap.size + 1, 0, none⟩ = some (.bool n)) (first | (with_reducible exact v9) | (with_reducible exact v11) | (with_reducible exact (q2.away (by omega) _ _).both.1) | (with_reducible exact ((q2.away (by omega) _ _).away (by omega) _ _).both.1) | go_keep)
      (first | (go_at_call 78; (with_reducible refine (rmade_any false A3 c3 (dig (val xs / val ys)) _ hq4.drew).mono ?_); generalize hsq : (false && decide (dig (val xs / val ys) ≠ [])) = sq; have HSQ := Lib.hid hsq; clear hsq; rintro e w5 ⟨rfl, hb5⟩; have o2 := l2.drew.below hb5 (Nat.le_refl _); obtain ⟨v9, _, _, _⟩ := o2.both) | (go_at_call 78; (with_reducible refine (rmade_any _ B3 d3 (dig (val xs % val ys)) _ (hr4.drew.below hb5 (Nat.le_refl _))).mono ?_); generalize hsr : (n && decide (dig (val xs % val ys) ≠ [])) = sr; have HSR := Lib.hid hsr; clear hsr; rintro e w6 ⟨rfl, hb6⟩; have q2 := o2.below hb6 (Nat.le_refl _); have q3 := (l3.drew.below hb5 (Nat.le_refl _)).below hb6 (Nat.le_refl _); have q4 := (l4.drew.below hb5 (Nat.le_refl _)).below hb6 (Nat.le_refl _); obtain ⟨v11, _, _, _⟩ := q2.both; obtain ⟨f1, f2, f3, f4⟩ := q3.both; obtain ⟨f5, f6, f7, f8⟩ := q4.both))
    rename_i hHeld
    clear hHeld v1 v2 v3 v4 v9 v11 f1 f2 f3 f4 f5 f6 f7 f8
    have hq6 := (hq4.drew.below hb5 (Nat.le_refl _)).below hb6 (Nat.le_refl _)
    have hr6 := (hr4.drew.below hb5 (Nat.le_refl _)).below hb6 (Nat.le_refl _)
    have hbel6 := below_trans (below_trans (hbel4.trans ((Read.refl w4).drew.below _)) hb5) hb6
    have HE2 : Hid (sdivR n xs n ys = (sq, dig (val xs / val ys), sr, dig (val xs % val ys), 0)) := by unfold Hid; rw [HE.out, HSQ.out, HSR.out]
    have p3 := (q3.put (.bool sq) (.slice A3 (dig (val xs / val ys)).length c3)).away (k := w.heap.size + 1 + 1 + 1) (by omega) (.bool sr) (.slice B3 (dig (val xs % val ys)).length d3)
    have p4 := (q4.away (k := w.heap.size + 1 + 1) (by omega) (.bool sq) (.slice A3 (dig (val xs / val ys)).length c3)).put (.bool sr) (.slice B3 (dig (val xs % val ys)).length d3)
    obtain ⟨u1, u2, _, _⟩ := p3.both
    obtain ⟨u3, u4, _, _⟩ := p4.both
    have hq7 := (hq6.put q3.ib sq (.slice A3 (dig (val xs / val ys)).length c3)).put (q4.away (k := w.heap.size + 1 + 1) (by omega) (.bool sq) (.slice A3 (dig (val xs / val ys)).length c3)).ib sr (.slice B3 (dig (val xs % val ys)).length d3)
    have hr7 := (hr6.put q3.ib sq (.slice A3 (dig (val xs / val ys)).length c3)).put (q4.away (k := w.heap.size + 1 + 1) (by omega) (.bool sq) (.slice A3 (dig (val xs / val ys)).length c3)).ib sr (.slice B3 (dig (val xs % val ys)).length d3)
    have hbel7 := below_put (below_put hbel6 (by omega) (.bool sq) (.slice A3 (dig (val xs / val ys)).length c3) (g := w.heap.size + 1 + 1)) (by omega) (.bool sr) (.slice B3 (dig (val xs % val ys)).length d3) (g := w.heap.size + 1 + 1 + 1)
    clear p3 p4 q2 q3 q4 hq6 hr6 hbel6
    go_wp2
    rw [HE2.out]
    exact bodyPost_ret (v := .tuple #[iv sq A3 (dig (val xs / val ys)).length c3, iv sr B3 (dig (val xs % val ys)).length d3, .int .i64 0]) (by simp [results, Try.results54, go_sem, u1, u2, u3, u4]) rfl ⟨⟨A3, c3, B3, d3, rfl, hq7, hr7⟩, hbel7⟩
  · obtain rfl : m = !n := by cases n <;> cases m <;> simp at hnm ⊢
    have hnn : (n == !n) = false := by cases n <;> rfl
    by_cases h4 : dig (val xs % val ys) = []
    · have HE := Lib.hid (sdiv_zero ha.ok hb.ok h1 h2 hy h4)
      have HF : ∀ s, fitI s (dig (val xs / val ys)) = (s, dig (val xs / val ys), 0) := fun s => if_pos (len_dig_sub ha.ok (sright_rightB h1) _ (Nat.div_le_self _ _))
      have hr0 : (dig (val xs % val ys)).length ≤ 0 := by rw [h4]; exact Nat.le_refl _
      have hr1 : decide (0 < (dig (val xs % val ys)).length) = false := by rw [h4]; rfl
      clear h1 h2 hnm hy h4
      go_enter Try.func54, Try.ntmps54
      go_wp2_with fail
      refine (srright_any _ A c xs _ ha0).mono ?_
      rintro e w2 ⟨rfl, hb2⟩
      rw [H1.out]
      have j1 := k1.below hb2 (Nat.le_refl _)
      have j2 := k2.below hb2 (Nat.le_refl _)
      have j3 := k3.below hb2 (Nat.le_refl _)
      have j4 := k4.below hb2 (Nat.le_refl _)
      obtain ⟨v1, v2, _, _⟩ := j1.both
      obtain ⟨v3, v4, _, _⟩ := j2.both
      have ha2 := ha0.below hb2 (Nat.le_refl _)
      have hy2 := hy0.below hb2 (Nat.le_refl _)
      have hbel := below_trans hb0 hb2
      clear hb2 k1 k2 k3 k4 ha0 hy0 hb0
      go_wp2_with fail
      refine (srright_any _ B d ys _ hy2).mono ?_
      rintro e w3 ⟨rfl, hb3⟩
      rw [H2.out]
      have i1 := j1.below hb3 (Nat.le_refl _)
      have i2 := j2.below hb3 (Nat.le_refl _)
      have i3 := j3.below hb3 (Nat.le_refl _)
      have i4 := j4.below hb3 (Nat.le_refl _)
      clear v1 v2 v3 v4
      obtain ⟨v1, v2, _, _⟩ := i1.both
      obtain ⟨v3, v4, _, _⟩ := i2.both
      have ha3 := ha2.below hb3 (Nat.le_refl _)
      have hy3 := hy2.below hb3 (Nat.le_refl _)
      have hbel3 := below_trans hbel hb3
      clear hb3 hbel ha2 hy2 j1 j2 j3 j4
      go_wp2_with fail
      refine (rdivmod_any A B c d xs ys w3 ha3 hy3).mono ?_
      rintro e w4 ⟨⟨A3, c3, B3, d3, rfl, hq4, hr4⟩, hb4⟩
      rw [HD.out] at hq4 hr4 ⊢
      have l1 := i1.below hb4 (Nat.le_refl _)
      have l2 := i2.below hb4 (Nat.le_refl _)
      have l3 := i3.below hb4 (Nat.le_refl _)
      have l4 := i4.below hb4 (Nat.le_refl _)
      clear v1 v2 v3 v4
      obtain ⟨v1, v2, _, _⟩ := l1.both
      obtain ⟨v3, v4, _, _⟩ := l2.both
      have hy4 := hy3.below hb4 (Nat.le_refl _)
      have hbel4 := below_trans hbel3 hb4
      clear hb4 hbel3 ha3 hy3 i1 i2 i3 i4
      go_wp2_with fail
      refine (rmade_any true A3 c3 (dig (val xs / val ys)) w4 hq4).mono ?_
      generalize hsq : (true && decide ((dig (val xs / val ys)) ≠ [])) = sq
      have HSQ := Lib.hid hsq
      clear hsq
      rintro e w5 ⟨rfl, hb5⟩
      have hq5 := hq4.below hb5 (Nat.le_refl _)
      go_wp2_with fail
      refine (rsfit_any sq A3 c3 (dig (val xs / val ys)) w5 hq5).mono ?_
      rintro e w6 ⟨⟨A6, c6, rfl, hq6⟩, hb6⟩
      have hb56 := below_trans hb5 hb6
      clear v1 v2 v3 v4
      rw [HF sq] at hq6 ⊢
      have l1' := (l1.below hb56 (Nat.le_refl _)).alloc (.cells #[.bool sq, .slice A6 (dig (val xs / val ys)).length c6] 24)
      have l2' := (l2.below hb56 (Nat.le_refl _)).alloc (.cells #[.bool sq, .slice A6 (dig (val xs / val ys)).length c6] 24)
      have l3' := (l3.below hb56 (Nat.le_refl _)).alloc (.cells #[.bool sq, .slice A6 (dig (val xs / val ys)).length c6] 24)
      have l4' := (l4.below hb56 (Nat.le_refl _)).alloc (.cells #[.bool sq, .slice A6 (dig (val xs / val ys)).length c6] 24)
      have x3 := (l3.below hb56 (Nat.le_refl _)).lt
      have x4 := (l4.below hb56 (Nat.le_refl _)).lt
      have lx := Blk.new w6 24 #[.bool sq, .slice A6 (dig (val xs / val ys)).length c6]
      have hr6' := (hr4.below hb56 (Nat.le_refl _)).alloc (.cells #[.bool sq, .slice A6 (dig (val xs / val ys)).length c6] 24)
      have hq6' := hq6.alloc (.cells #[.bool sq, .slice A6 (dig (val xs / val ys)).length c6] 24)
      have hbelW := below_alloc (below_trans hbel4 hb56) (Nat.le_refl _) (.cells #[.bool sq, .slice A6 (dig (val xs / val ys)).length c6] 24)
      have e1 : ¬ w.heap.size + 1 + 1 = w6.heap.size := by omega
      have e2 : ¬ w.heap.size + 1 + 1 + 1 = w6.heap.size := by omega
      have e3 : ¬ w6.heap.size = w.heap.size + 1 + 1 := by omega
      have e4 : ¬ w6.heap.size = w.heap.size + 1 + 1 + 1 := by omega
      clear l1 l2 l3 l4 x3 x4 hb5 hb6 hb56 hbel4 hq4 hr4 hq5 hq6
      go_wp2_with fail
      generalize w6.heap.size = gx at *
      generalize w6.alloc (.cells #[.bool sq, .slice A6 (dig (val xs / val ys)).length c6] 24) = W at *
      obtain ⟨v1, v2, _, _⟩ := l2'.both
      obtain ⟨v3, v4, _, _⟩ := lx.both
      go_region_held3 (fun w' => w'.cell? ⟨gx, 0, none⟩ = some (.bool sq) ∧ w'.cell? ⟨gx, 1, none⟩ = some (.slice A6 (dig (val xs / val ys)).length c6) ∧ w'.cell? ⟨w.heap.size + 1, 0, none⟩ = some (.bool !n)) (first | (with_reducible exact ⟨v7, v8, v5⟩) | (with_reducible exact ⟨(qx.away e3 _ _).both.1, (qx.away e3 _ _).both.2.1, (q2.away (by omega) _ _).both.1⟩) | (with_reducible exact ⟨((qx.away e3 _ _).away e4 _ _).both.1, ((qx.away e3 _ _).away e4 _ _).both.2.1, ((q2.away (by omega) _ _).away (by omega) _ _).both.1⟩) | go_keep)
        (first | (go_at_call 78; (with_reducible refine (rmade_any _ B3 d3 (dig (val xs % val ys)) _ hr6'.drew).mono ?_); generalize hsr : ((!n) && decide ((dig (val xs % val ys)) ≠ [])) = sr; have HSR := Lib.hid hsr; clear hsr; rintro e w7 ⟨rfl, hb7⟩; have q2 := l2'.drew.below hb7 (Nat.le_refl _); have qx := lx.drew.below hb7 (Nat.le_refl _); have q3 := l3'.drew.below hb7 (Nat.le_refl _); have q4 := l4'.drew.below hb7 (Nat.le_refl _); obtain ⟨v5, v6, _, _⟩ := q2.both; obtain ⟨v7, v8, _, _⟩ := qx.both; obtain ⟨f1, f2, f3, f4⟩ := q3.both; obtain ⟨f5, f6, f7, f8⟩ := q4.both))
      rename_i hHeld
      clear hHeld v1 v2 v3 v4 v5 v6 v7 v8 f1 f2 f3 f4 f5 f6 f7 f8
      have hq6 := hq6'.drew.below hb7 (Nat.le_refl _)
      have hr6 := hr6'.drew.below hb7 (Nat.le_refl _)
      have hbel6 := below_trans (hbelW.trans ((Read.refl W).drew.below _)) hb7
      have HE2 : Hid (sdivR n xs (!n) ys = (sq, dig (val xs / val ys), sr, dig (val xs % val ys), 0)) := by unfold Hid; rw [HE.out, HSQ.out, HSR.out]
      have p3 := (q3.put (.bool sq) (.slice A6 (dig (val xs / val ys)).length c6)).away (k := w.heap.size + 1 + 1 + 1) (by omega) (.bool sr) (.slice B3 (dig (val xs % val ys)).length d3)
      have p4 := (q4.away (k := w.heap.size + 1 + 1) (by omega) (.bool sq) (.slice A6 (dig (val xs / val ys)).length c6)).put (.bool sr) (.slice B3 (dig (val xs % val ys)).length d3)
      obtain ⟨u1, u2, _, _⟩ := p3.both
      obtain ⟨u3, u4, _, _⟩ := p4.both
      have hq7 := (hq6.put q3.ib sq (.slice A6 (dig (val xs / val ys)).length c6)).put (q4.away (k := w.heap.size + 1 + 1) (by omega) (.bool sq) (.slice A6 (dig (val xs / val ys)).length c6)).ib sr (.slice B3 (dig (val xs % val ys)).length d3)
      have hr7 := (hr6.put q3.ib sq (.slice A6 (dig (val xs / val ys)).length c6)).put (q4.away (k := w.heap.size + 1 + 1) (by omega) (.bool sq) (.slice A6 (dig (val xs / val ys)).length c6)).ib sr (.slice B3 (dig (val xs % val ys)).length d3)
      have hbel7 := below_put (below_put hbel6 (by omega) (.bool sq) (.slice A6 (dig (val xs / val ys)).length c6) (g := w.heap.size + 1 + 1)) (by omega) (.bool sr) (.slice B3 (dig (val xs % val ys)).length d3) (g := w.heap.size + 1 + 1 + 1)
      clear p3 p4 q2 q3 q4 hq6 hr6 hbel6
      go_wp2
      rw [HE2.out]
      exact bodyPost_ret (v := .tuple #[iv sq A6 (dig (val xs / val ys)).length c6, iv sr B3 (dig (val xs % val ys)).length d3, .int .i64 0]) (by simp [results, Try.results54, go_sem, u1, u2, u3, u4]) rfl ⟨⟨A6, c6, B3, d3, rfl, hq7, hr7⟩, hbel7⟩
    · have hr0 : 0 < (dig (val xs % val ys)).length := List.length_pos_iff.2 h4
      have hyp := val_pos_right hb.ok (sright_rightB h2) hy
      have HM : Hid (val xs % val ys ≤ val ys) := Nat.le_of_lt (Nat.mod_lt _ hyp)
      have HY := Lib.hid (right_dig hb.ok (sright_rightB h2))
      have HL : Hid ((dig (val xs / val ys)).length ≤ 256 ∧ (dig (val xs % val ys)).length ≤ 256 ∧ ys.length ≤ 256) := ⟨len_dig_sub ha.ok (sright_rightB h1) _ (Nat.div_le_self _ _), len_dig_sub ha.ok (sright_rightB h1) _ (Nat.mod_le _ _), right_len (sright_rightB h2)⟩
      by_cases hbig : (dig (val xs / val ys + 1)).length ≤ 256
      · have HE := Lib.hid ((sdiv_down hb.ok h1 h2 hy h4).trans (if_pos hbig))
        have HF : ∀ s, fitI s (dig (val xs / val ys + 1)) = (s, dig (val xs / val ys + 1), 0) := fun s => if_pos hbig
        clear h1 h2 hnm hy h4 hyp hbig
        go_enter Try.func54, Try.ntmps54
        go_wp2_with fail
        refine (srright_any _ A c xs _ ha0).mono ?_
        rintro e w2 ⟨rfl, hb2⟩
        rw [H1.out]
        have j1 := k1.below hb2 (Nat.le_refl _)
        have j2 := k2.below hb2 (Nat.le_refl _)
        have j3 := k3.below hb2 (Nat.le_refl _)
        have j4 := k4.below hb2 (Nat.le_refl _)
        obtain ⟨v1, v2, _, _⟩ := j1.both
        obtain ⟨v3, v4, _, _⟩ := j2.both
        have ha2 := ha0.below hb2 (Nat.le_refl _)
        have hy2 := hy0.below hb2 (Nat.le_refl _)
        have hbel := below_trans hb0 hb2
        clear hb2 k1 k2 k3 k4 ha0 hy0 hb0
        go_wp2_with fail
        refine (srright_any _ B d ys _ hy2).mono ?_
        rintro e w3 ⟨rfl, hb3⟩
        rw [H2.out]
        have i1 := j1.below hb3 (Nat.le_refl _)
        have i2 := j2.below hb3 (Nat.le_refl _)
        have i3 := j3.below hb3 (Nat.le_refl _)
        have i4 := j4.below hb3 (Nat.le_refl _)
        clear v1 v2 v3 v4
        obtain ⟨v1, v2, _, _⟩ := i1.both
        obtain ⟨v3, v4, _, _⟩ := i2.both
        have ha3 := ha2.below hb3 (Nat.le_refl _)
        have hy3 := hy2.below hb3 (Nat.le_refl _)
        have hbel3 := below_trans hbel hb3
        clear hb3 hbel ha2 hy2 j1 j2 j3 j4
        go_wp2_with fail
        refine (rdivmod_any A B c d xs ys w3 ha3 hy3).mono ?_
        rintro e w4 ⟨⟨A3, c3, B3, d3, rfl, hq4, hr4⟩, hb4⟩
        rw [HD.out] at hq4 hr4 ⊢
        have l1 := i1.below hb4 (Nat.le_refl _)
        have l2 := i2.below hb4 (Nat.le_refl _)
        have l3 := i3.below hb4 (Nat.le_refl _)
        have l4 := i4.below hb4 (Nat.le_refl _)
        clear v1 v2 v3 v4
        obtain ⟨v1, v2, _, _⟩ := l1.both
        obtain ⟨v3, v4, _, _⟩ := l2.both
        have hy4 := hy3.below hb4 (Nat.le_refl _)
        have hbel4 := below_trans hbel3 hb4
        clear hb4 hbel3 ha3 hy3 i1 i2 i3 i4
        go_wp2_with fail
        refine (plus_lit hq4 rfl (Nat.le_trans HL.out.1 (by decide))).mono ?_
        rintro e w5 ⟨⟨A5, c5, rfl, hq5⟩, hb5⟩
        have hb45 := below_trans (below_alloc1 w4 (.cells #[.int .u32 1] 108)) hb5
        have i1 := l1.below hb45 (Nat.le_refl _)
        have i2 := l2.below hb45 (Nat.le_refl _)
        have i3 := l3.below hb45 (Nat.le_refl _)
        have i4 := l4.below hb45 (Nat.le_refl _)
        have hr5 := hr4.below hb45 (Nat.le_refl _)
        have hy5 := hy4.below hb45 (Nat.le_refl _)
        have hbel5 := below_trans hbel4 hb45
        clear v1 v2 v3 v4 l1 l2 l3 l4 hr4 hy4 hq4 hb45 hb5 hbel4
        obtain ⟨v1, v2, _, _⟩ := i1.both
        obtain ⟨v3, v4, _, _⟩ := i2.both
        go_wp2_with fail
        refine (minus_eq HY.out.symm rfl hy5 hr5 (Nat.le_trans HL.out.2.2 (by decide)) (Nat.le_trans HL.out.2.1 (by decide)) HM.out).mono ?_
        rintro e w4 ⟨⟨B3, d3, rfl, hr4⟩, hb4⟩
        have l1 := i1.below hb4 (Nat.le_refl _)
        have l2 := i2.below hb4 (Nat.le_refl _)
        have l3 := i3.below hb4 (Nat.le_refl _)
        have l4 := i4.below hb4 (Nat.le_refl _)
        have hq4 := hq5.below hb4 (Nat.le_refl _)
        have hbel4 := below_trans hbel5 hb4
        clear v1 v2 v3 v4 i1 i2 i3 i4 hr5 hy5 hq5 hb4 hbel5
        obtain ⟨v1, v2, _, _⟩ := l1.both
        obtain ⟨v3, v4, _, _⟩ := l2.both
        obtain ⟨A3, hA3⟩ : ∃ A3, A3 = A5 := ⟨_, rfl⟩
        obtain ⟨c3, hc3⟩ : ∃ c3, c3 = c5 := ⟨_, rfl⟩
        subst hA3 hc3
        go_wp2_with fail
        refine (rmade_any true A3 c3 (dig (val xs / val ys + 1)) w4 hq4).mono ?_
        generalize hsq : (true && decide ((dig (val xs / val ys + 1)) ≠ [])) = sq
        have HSQ := Lib.hid hsq
        clear hsq
        rintro e w5 ⟨rfl, hb5⟩
        have hq5 := hq4.below hb5 (Nat.le_refl _)
        go_wp2_with fail
        refine (rsfit_any sq A3 c3 (dig (val xs / val ys + 1)) w5 hq5).mono ?_
        rintro e w6 ⟨⟨A6, c6, rfl, hq6⟩, hb6⟩
        have hb56 := below_trans hb5 hb6
        clear v1 v2 v3 v4
        rw [HF sq] at hq6 ⊢
        have l1' := (l1.below hb56 (Nat.le_refl _)).alloc (.cells #[.bool sq, .slice A6 (dig (val xs / val ys + 1)).length c6] 24)
        have l2' := (l2.below hb56 (Nat.le_refl _)).alloc (.cells #[.bool sq, .slice A6 (dig (val xs / val ys + 1)).length c6] 24)
        have l3' := (l3.below hb56 (Nat.le_refl _)).alloc (.cells #[.bool sq, .slice A6 (dig (val xs / val ys + 1)).length c6] 24)
        have l4' := (l4.below hb56 (Nat.le_refl _)).alloc (.cells #[.bool sq, .slice A6 (dig (val xs / val ys + 1)).length c6] 24)
        have x3 := (l3.below hb56 (Nat.le_refl _)).lt
        have x4 := (l4.below hb56 (Nat.le_refl _)).lt
        have lx := Blk.new w6 24 #[.bool sq, .slice A6 (dig (val xs / val ys + 1)).length c6]
        have hr6' := (hr4.below hb56 (Nat.le_refl _)).alloc (.cells #[.bool sq, .slice A6 (dig (val xs / val ys + 1)).length c6] 24)
        have hq6' := hq6.alloc (.cells #[.bool sq, .slice A6 (dig (val xs / val ys + 1)).length c6] 24)
        have hbelW := below_alloc (below_trans hbel4 hb56) (Nat.le_refl _) (.cells #[.bool sq, .slice A6 (dig (val xs / val ys + 1)).length c6] 24)
        have e1 : ¬ w.heap.size + 1 + 1 = w6.heap.size := by omega
        have e2 : ¬ w.heap.size + 1 + 1 + 1 = w6.heap.size := by omega
        have e3 : ¬ w6.heap.size = w.heap.size + 1 + 1 := by omega
        have e4 : ¬ w6.heap.size = w.heap.size + 1 + 1 + 1 := by omega
        clear l1 l2 l3 l4 x3 x4 hb5 hb6 hb56 hbel4 hq4 hr4 hq5 hq6
        go_wp2_with fail
        generalize w6.heap.size = gx at *
        generalize w6.alloc (.cells #[.bool sq, .slice A6 (dig (val xs / val ys + 1)).length c6] 24) = W at *
        obtain ⟨v1, v2, _, _⟩ := l2'.both
        obtain ⟨v3, v4, _, _⟩ := lx.both
        go_region_held3 (fun w' => w'.cell? ⟨gx, 0, none⟩ = some (.bool sq) ∧ w'.cell? ⟨gx, 1, none⟩ = some (.slice A6 (dig (val xs / val ys + 1)).length c6) ∧ w'.cell? ⟨w.heap.size + 1, 0, none⟩ = some (.bool !n)) (first | (with_reducible exact ⟨v7, v8, v5⟩) | (with_reducible exact ⟨(qx.away e3 _ _).both.1, (qx.away e3 _ _).both.2.1, (q2.away (by omega) _ _).both.1⟩) | (with_reducible exact ⟨((qx.away e3 _ _).away e4 _ _).both.1, ((qx.away e3 _ _).away e4 _ _).both.2.1, ((q2.away (by omega) _ _).away (by omega) _ _).both.1⟩) | go_keep)
          (first | (go_at_call 78; (with_reducible refine (rmade_any _ B3 d3 (dig (val ys - val xs % val ys)) _ hr6'.drew).mono ?_); generalize hsr : ((!n) && decide ((dig (val ys - val xs % val ys)) ≠ [])) = sr; have HSR := Lib.hid hsr; clear hsr; rintro e w7 ⟨rfl, hb7⟩; have q2 := l2'.drew.below hb7 (Nat.le_refl _); have qx := lx.drew.below hb7 (Nat.le_refl _); have q3 := l3'.drew.below hb7 (Nat.le_refl _); have q4 := l4'.drew.below hb7 (Nat.le_refl _); obtain ⟨v5, v6, _, _⟩ := q2.both; obtain ⟨v7, v8, _, _⟩ := qx.both; obtain ⟨f1, f2, f3, f4⟩ := q3.both; obtain ⟨f5, f6, f7, f8⟩ := q4.both))
        rename_i hHeld
        clear hHeld v1 v2 v3 v4 v5 v6 v7 v8 f1 f2 f3 f4 f5 f6 f7 f8
        have hq6 := hq6'.drew.below hb7 (Nat.le_refl _)
        have hr6 := hr6'.drew.below hb7 (Nat.le_refl _)
        have hbel6 := below_trans (hbelW.trans ((Read.refl W).drew.below _)) hb7
        have HE2 : Hid (sdivR n xs (!n) ys = (sq, dig (val xs / val ys + 1), sr, dig (val ys - val xs % val ys), 0)) := by unfold Hid; rw [HE.out, HSQ.out, HSR.out]
        have p3 := (q3.put (.bool sq) (.slice A6 (dig (val xs / val ys + 1)).length c6)).away (k := w.heap.size + 1 + 1 + 1) (by omega) (.bool sr) (.slice B3 (dig (val ys - val xs % val ys)).length d3)
        have p4 := (q4.away (k := w.heap.size + 1 + 1) (by omega) (.bool sq) (.slice A6 (dig (val xs / val ys + 1)).length c6)).put (.bool sr) (.slice B3 (dig (val ys - val xs % val ys)).length d3)
        obtain ⟨u1, u2, _, _⟩ := p3.both
        obtain ⟨u3, u4, _, _⟩ := p4.both
        have hq7 := (hq6.put q3.ib sq (.slice A6 (dig (val xs / val ys + 1)).length c6)).put (q4.away (k := w.heap.size + 1 + 1) (by omega) (.bool sq) (.slice A6 (dig (val xs / val ys + 1)).length c6)).ib sr (.slice B3 (dig (val ys - val xs % val ys)).length d3)
        have hr7 := (hr6.put q3.ib sq (.slice A6 (dig (val xs / val ys + 1)).length c6)).put (q4.away (k := w.heap.size + 1 + 1) (by omega) (.bool sq) (.slice A6 (dig (val xs / val ys + 1)).length c6)).ib sr (.slice B3 (dig (val ys - val xs % val ys)).length d3)
        have hbel7 := below_put (below_put hbel6 (by omega) (.bool sq) (.slice A6 (dig (val xs / val ys + 1)).length c6) (g := w.heap.size + 1 + 1)) (by omega) (.bool sr) (.slice B3 (dig (val ys - val xs % val ys)).length d3) (g := w.heap.size + 1 + 1 + 1)
        clear p3 p4 q2 q3 q4 hq6 hr6 hbel6
        go_wp2
        rw [HE2.out]
        exact bodyPost_ret (v := .tuple #[iv sq A6 (dig (val xs / val ys + 1)).length c6, iv sr B3 (dig (val ys - val xs % val ys)).length d3, .int .i64 0]) (by simp [results, Try.results54, go_sem, u1, u2, u3, u4]) rfl ⟨⟨A6, c6, B3, d3, rfl, hq7, hr7⟩, hbel7⟩
      · have HE := Lib.hid ((sdiv_down hb.ok h1 h2 hy h4).trans (if_neg hbig))
        have HF : ∀ s, fitI s (dig (val xs / val ys + 1)) = (false, [], 3) := fun s => if_neg hbig
        clear h1 h2 hnm hy h4 hyp hbig
        go_enter Try.func54, Try.ntmps54
        go_wp2_with fail
        refine (srright_any _ A c xs _ ha0).mono ?_
        rintro e w2 ⟨rfl, hb2⟩
        rw [H1.out]
        have j1 := k1.below hb2 (Nat.le_refl _)
        have j2 := k2.below hb2 (Nat.le_refl _)
        have j3 := k3.below hb2 (Nat.le_refl _)
        have j4 := k4.below hb2 (Nat.le_refl _)
        obtain ⟨v1, v2, _, _⟩ := j1.both
        obtain ⟨v3, v4, _, _⟩ := j2.both
        have ha2 := ha0.below hb2 (Nat.le_refl _)
        have hy2 := hy0.below hb2 (Nat.le_refl _)
        have hbel := below_trans hb0 hb2
        clear hb2 k1 k2 k3 k4 ha0 hy0 hb0
        go_wp2_with fail
        refine (srright_any _ B d ys _ hy2).mono ?_
        rintro e w3 ⟨rfl, hb3⟩
        rw [H2.out]
        have i1 := j1.below hb3 (Nat.le_refl _)
        have i2 := j2.below hb3 (Nat.le_refl _)
        have i3 := j3.below hb3 (Nat.le_refl _)
        have i4 := j4.below hb3 (Nat.le_refl _)
        clear v1 v2 v3 v4
        obtain ⟨v1, v2, _, _⟩ := i1.both
        obtain ⟨v3, v4, _, _⟩ := i2.both
        have ha3 := ha2.below hb3 (Nat.le_refl _)
        have hy3 := hy2.below hb3 (Nat.le_refl _)
        have hbel3 := below_trans hbel hb3
        clear hb3 hbel ha2 hy2 j1 j2 j3 j4
        go_wp2_with fail
        refine (rdivmod_any A B c d xs ys w3 ha3 hy3).mono ?_
        rintro e w4 ⟨⟨A3, c3, B3, d3, rfl, hq4, hr4⟩, hb4⟩
        rw [HD.out] at hq4 hr4 ⊢
        have l1 := i1.below hb4 (Nat.le_refl _)
        have l2 := i2.below hb4 (Nat.le_refl _)
        have l3 := i3.below hb4 (Nat.le_refl _)
        have l4 := i4.below hb4 (Nat.le_refl _)
        clear v1 v2 v3 v4
        obtain ⟨v1, v2, _, _⟩ := l1.both
        obtain ⟨v3, v4, _, _⟩ := l2.both
        have hy4 := hy3.below hb4 (Nat.le_refl _)
        have hbel4 := below_trans hbel3 hb4
        clear hb4 hbel3 ha3 hy3 i1 i2 i3 i4
        go_wp2_with fail
        refine (plus_lit hq4 rfl (Nat.le_trans HL.out.1 (by decide))).mono ?_
        rintro e w5 ⟨⟨A5, c5, rfl, hq5⟩, hb5⟩
        have hb45 := below_trans (below_alloc1 w4 (.cells #[.int .u32 1] 108)) hb5
        have i1 := l1.below hb45 (Nat.le_refl _)
        have i2 := l2.below hb45 (Nat.le_refl _)
        have i3 := l3.below hb45 (Nat.le_refl _)
        have i4 := l4.below hb45 (Nat.le_refl _)
        have hr5 := hr4.below hb45 (Nat.le_refl _)
        have hy5 := hy4.below hb45 (Nat.le_refl _)
        have hbel5 := below_trans hbel4 hb45
        clear v1 v2 v3 v4 l1 l2 l3 l4 hr4 hy4 hq4 hb45 hb5 hbel4
        obtain ⟨v1, v2, _, _⟩ := i1.both
        obtain ⟨v3, v4, _, _⟩ := i2.both
        go_wp2_with fail
        refine (minus_eq HY.out.symm rfl hy5 hr5 (Nat.le_trans HL.out.2.2 (by decide)) (Nat.le_trans HL.out.2.1 (by decide)) HM.out).mono ?_
        rintro e w4 ⟨⟨B3, d3, rfl, hr4⟩, hb4⟩
        have l1 := i1.below hb4 (Nat.le_refl _)
        have l2 := i2.below hb4 (Nat.le_refl _)
        have l3 := i3.below hb4 (Nat.le_refl _)
        have l4 := i4.below hb4 (Nat.le_refl _)
        have hq4 := hq5.below hb4 (Nat.le_refl _)
        have hbel4 := below_trans hbel5 hb4
        clear v1 v2 v3 v4 i1 i2 i3 i4 hr5 hy5 hq5 hb4 hbel5
        obtain ⟨v1, v2, _, _⟩ := l1.both
        obtain ⟨v3, v4, _, _⟩ := l2.both
        obtain ⟨A3, hA3⟩ : ∃ A3, A3 = A5 := ⟨_, rfl⟩
        obtain ⟨c3, hc3⟩ : ∃ c3, c3 = c5 := ⟨_, rfl⟩
        subst hA3 hc3
        go_wp2_with fail
        refine (rmade_any true A3 c3 (dig (val xs / val ys + 1)) w4 hq4).mono ?_
        generalize hsq : (true && decide ((dig (val xs / val ys + 1)) ≠ [])) = sq
        have HSQ := Lib.hid hsq
        clear hsq
        rintro e w5 ⟨rfl, hb5⟩
        have hq5 := hq4.below hb5 (Nat.le_refl _)
        go_wp2_with fail
        refine (rsfit_any sq A3 c3 (dig (val xs / val ys + 1)) w5 hq5).mono ?_
        rintro e w6 ⟨⟨A6, c6, rfl, hq6⟩, hb6⟩
        have hb56 := below_trans hb5 hb6
        clear v1 v2 v3 v4
        rw [HF sq]
        clear HF
        have j3 := (l3.below hb56 (Nat.le_refl _)).alloc (.cells #[.bool false, .slice A6 0 c6] 24)
        have j4 := (l4.below hb56 (Nat.le_refl _)).alloc (.cells #[.bool false, .slice A6 0 c6] 24)
        have hbelB := below_alloc (below_trans hbel4 hb56) (Nat.le_refl _) (.cells #[.bool false, .slice A6 0 c6] 24)
        go_wp2_with (first | ((with_reducible show wpList _ _ _ (Oper.mk none (Op.store _ _ _) _ _ _ _ :: _) _ _); refine wp_put (o := ⟨none, .store _ _ _, _, _, _, _⟩) _ _ j3 rfl rfl rfl rfl info_rint rfl rfl ?_; intro wA a3 gA; have a4 := (j4).turn gA (by omega); have hbelA := below_grown hbelB gA (hbelB).size (by omega)) | ((with_reducible show wpList _ _ _ (Oper.mk none (Op.store _ _ _) _ _ _ _ :: _) _ _); refine wp_put (o := ⟨none, .store _ _ _, _, _, _, _⟩) _ _ a4 rfl rfl rfl rfl info_rint rfl rfl ?_; intro wB b4 gB; have b3 := a3.turn gB (by omega); have hbelB := below_grown hbelA gB hbelA.size (by omega); obtain ⟨v5, v6, _, _⟩ := b3.both; obtain ⟨v7, v8, _, _⟩ := b4.both))
        rw [HE.out]
        exact bodyPost_ret (v := .tuple #[iv false none 0 0, iv false none 0 0, .int .i64 3]) (by simp [results, Try.results54, go_sem, v5, v6, v7, v8]) rfl ⟨⟨none, 0, none, 0, rfl, Rd.nil, Rd.nil⟩, hbelB⟩
end Go.Proofs.Ytdhikpfppbcjkaa

namespace Go.Proofs.Ytdhikpfppbcjkaa
open Go.RowKit Num

set_option maxRecDepth 100000 in
set_option maxHeartbeats 1000000 in
theorem rsgcd_any (n m : Bool) (A B : Option Addr) (c d : Nat) (xs ys : List Nat) (w : World) (ha : Rd w A c xs) (hb : Rd w B d ys) :
    Calls Try.prog 51 #[iv n A xs.length c, iv m B ys.length d] w fun e w' => RetI w w' e (sgcdR n xs m ys) := by
  have ha0 := ((ha.alloc (.cells #[.bool n, .slice A xs.length c] 24)).alloc (.cells #[.bool (m), .slice B ys.length d] 24)).alloc (.cells #[.bool false, .slice none 0 0] 24)
  have hy0 := ((hb.alloc (.cells #[.bool n, .slice A xs.length c] 24)).alloc (.cells #[.bool (m), .slice B ys.length d] 24)).alloc (.cells #[.bool false, .slice none 0 0] 24)
  have hb0 := below_alloc (below_alloc (below_alloc1 w (.cells #[.bool n, .slice A xs.length c] 24)) (Nat.le_refl _) (.cells #[.bool (m), .slice B ys.length d] 24)) (Nat.le_refl _) (.cells #[.bool false, .slice none 0 0] 24)
  have k1 : Blk (((w.alloc (.cells #[.bool n, .slice A xs.length c] 24)).alloc (.cells #[.bool (m), .slice B ys.length d] 24)).alloc (.cells #[.bool false, .slice none 0 0] 24)) w.heap.size _ _ := ((Blk.new w 24 #[.bool n, .slice A xs.length c]).alloc _).alloc _
  have k2 : Blk (((w.alloc (.cells #[.bool n, .slice A xs.length c] 24)).alloc (.cells #[.bool (m), .slice B ys.length d] 24)).alloc (.cells #[.bool false, .slice none 0 0] 24)) (w.heap.size + 1) _ _ := (Blk.at_ (by simp)).alloc _
  have k4 : Blk (((w.alloc (.cells #[.bool n, .slice A xs.length c] 24)).alloc (.cells #[.bool (m), .slice B ys.length d] 24)).alloc (.cells #[.bool false, .slice none 0 0] 24)) (w.heap.size + 1 + 1) _ _ := Blk.at_ (by simp)
  rcases Bool.eq_false_or_eq_true (sright n xs) with h1 | h1
  case inr =>
    have HE := Lib.hid (sgcdR_no (n := n) (m := m) (xs := xs) (ys := ys) (by rw [h1]; rfl))
    have H1 := Lib.hid h1
    clear h1
    go_enter Try.func51, Try.ntmps51
    go_wp2_with fail
    refine (srright_any _ A c xs _ ha0).mono ?_
    rintro e w2 ⟨rfl, hb2⟩
    rw [H1.out]
    have j1 := k1.below hb2 (Nat.le_refl _)
    have j2 := k2.below hb2 (Nat.le_refl _)
    have j4 := k4.below hb2 (Nat.le_refl _)
    obtain ⟨v1, v2, _, _⟩ := j1.both
    obtain ⟨v3, v4, _, _⟩ := j2.both
    have ha2 := ha0.below hb2 (Nat.le_refl _)
    have hy2 := hy0.below hb2 (Nat.le_refl _)
    have hbel := below_trans hb0 hb2
    clear hb2 k1 k2 k4 ha0 hy0 hb0
    go_wp2_with ((with_reducible show wpList _ _ _ (Oper.mk none (Op.store _ _ _) _ _ _ _ :: _) _ _); refine wp_put (o := ⟨none, .store _ _ _, _, _, _, _⟩) _ _ j4 rfl rfl rfl rfl info_rint rfl rfl ?_; intro wA a3 gA; obtain ⟨v5, v6, _, _⟩ := a3.both)
    rw [HE.out]
    exact bodyPost_ret (v := .tuple #[iv false none 0 0, .int .i64 2]) (by simp [results, Try.results51, go_sem, v5, v6]) rfl ⟨⟨none, 0, rfl, Rd.nil⟩, below_grown hbel gA (hbel).size (by omega)⟩
  rcases Bool.eq_false_or_eq_true (sright m ys) with h2 | h2
  case inr =>
    have HE := Lib.hid (sgcdR_no (n := n) (m := m) (xs := xs) (ys := ys) (by rw [h1, h2]; rfl))
    have H1 := Lib.hid h1
    have H2 := Lib.hid h2
    clear h1 h2
    go_enter Try.func51, Try.ntmps51
    go_wp2_with fail
    refine (srright_any _ A c xs _ ha0).mono ?_
    rintro e w2 ⟨rfl, hb2⟩
    rw [H1.out]
    have j1 := k1.below hb2 (Nat.le_refl _)
    have j2 := k2.below hb2 (Nat.le_refl _)
    have j4 := k4.below hb2 (Nat.le_refl _)
    obtain ⟨v1, v2, _, _⟩ := j1.both
    obtain ⟨v3, v4, _, _⟩ := j2.both
    have ha2 := ha0.below hb2 (Nat.le_refl _)
    have hy2 := hy0.below hb2 (Nat.le_refl _)
    have hbel := below_trans hb0 hb2
    clear hb2 k1 k2 k4 ha0 hy0 hb0
    go_wp2_with fail
    refine (srright_any _ B d ys _ hy2).mono ?_
    rintro e w3 ⟨rfl, hb3⟩
    rw [H2.out]
    have i1 := j1.below hb3 (Nat.le_refl _)
    have i2 := j2.below hb3 (Nat.le_refl _)
    have i4 := j4.below hb3 (Nat.le_refl _)
    clear v1 v2 v3 v4
    obtain ⟨v1, v2, _, _⟩ := i1.both
    obtain ⟨v3, v4, _, _⟩ := i2.both
    have ha3 := ha2.below hb3 (Nat.le_refl _)
    have hy3 := hy2.below hb3 (Nat.le_refl _)
    have hbel3 := below_trans hbel hb3
    clear hb3 hbel ha2 hy2 j1 j2 j4
    go_wp2_with ((with_reducible show wpList _ _ _ (Oper.mk none (Op.store _ _ _) _ _ _ _ :: _) _ _); refine wp_put (o := ⟨none, .store _ _ _, _, _, _, _⟩) _ _ i4 rfl rfl rfl rfl info_rint rfl rfl ?_; intro wA a3 gA; obtain ⟨v5, v6, _, _⟩ := a3.both)
    rw [HE.out]
    exact bodyPost_ret (v := .tuple #[iv false none 0 0, .int .i64 2]) (by simp [results, Try.results51, go_sem, v5, v6]) rfl ⟨⟨none, 0, rfl, Rd.nil⟩, below_grown hbel3 gA (hbel3).size (by omega)⟩
  have HE := Lib.hid (sgcdR_eq h1 h2)
  have D1 := Lib.hid (right_dig ha.ok (sright_rightB h1))
  have D2 := Lib.hid (right_dig hb.ok (sright_rightB h2))
  have L1 : xs.length ≤ 256 := right_len (sright_rightB h1)
  have L2 : ys.length ≤ 256 := right_len (sright_rightB h2)
  have H1 := Lib.hid h1
  have H2 := Lib.hid h2
  clear h1 h2
  go_enter Try.func51, Try.ntmps51
  go_wp2_with fail
  refine (srright_any _ A c xs _ ha0).mono ?_
  rintro e w2 ⟨rfl, hb2⟩
  rw [H1.out]
  have j1 := k1.below hb2 (Nat.le_refl _)
  have j2 := k2.below hb2 (Nat.le_refl _)
  have j4 := k4.below hb2 (Nat.le_refl _)
  obtain ⟨v1, v2, _, _⟩ := j1.both
  obtain ⟨v3, v4, _, _⟩ := j2.both
  have ha2 := ha0.below hb2 (Nat.le_refl _)
  have hy2 := hy0.below hb2 (Nat.le_refl _)
  have hbel := below_trans hb0 hb2
  clear hb2 k1 k2 k4 ha0 hy0 hb0
  go_wp2_with fail
  refine (srright_any _ B d ys _ hy2).mono ?_
  rintro e w3 ⟨rfl, hb3⟩
  rw [H2.out]
  have i1 := j1.below hb3 (Nat.le_refl _)
  have i2 := j2.below hb3 (Nat.le_refl _)
  have i4 := j4.below hb3 (Nat.le_refl _)
  clear v1 v2 v3 v4
  obtain ⟨v1, v2, _, _⟩ := i1.both
  obtain ⟨v3, v4, _, _⟩ := i2.both
  have ha3 := ha2.below hb3 (Nat.le_refl _)
  have hy3 := hy2.below hb3 (Nat.le_refl _)
  have hbel3 := below_trans hbel hb3
  clear hb3 hbel ha2 hy2 j1 j2 j4
  go_wp2_with fail
  go_quiet (fail)
  go_wp2_with fail
  go_loopw [6, 7] (fun x y wr => ∃ (p q : Nat) (A1 : Option Addr) (c1 : Nat) (B1 : Option Addr) (d1 : Nat), x = .slice A1 (dig p).length c1 ∧ y = .slice B1 (dig q).length d1 ∧ Rd wr A1 c1 (dig p) ∧ Rd wr B1 d1 (dig q) ∧ (dig p).length ≤ 256 ∧ (dig q).length ≤ 256 ∧
      Hid (Nat.gcd p q = Nat.gcd (val xs) (val ys)) ∧ Blk wr (w.heap.size + 1 + 1) 24 #[.bool false, .slice none 0 0] ∧ Below w.heap.size w wr) (fun _ y wr => numAt wr y)
  case atStart =>
    refine ⟨val xs, val ys, A, c, B, d, ?_, ?_, ?_, ?_, ?_, ?_, rfl, i4.drewN _, hbel3.trans ((Read.refl w3).drewN _ |>.below _)⟩
    · rw [D1.out]
    · rw [D2.out]
    · rw [D1.out]; exact ha3.drewN _
    · rw [D2.out]; exact hy3.drewN _
    · rw [D1.out]; exact L1
    · rw [D2.out]; exact L2
  case round =>
    obtain ⟨p, q, A1, c1, B1, d1, rfl, rfl, hr1, hr2, hl1, hl2, hg, hk, hbel⟩ := hrel
    by_cases hq : q = 0
    · subst hq
      have HG : Hid (p = Nat.gcd (val xs) (val ys)) := hg.out.symm.trans (Nat.gcd_zero_right p) |>.symm
      have hq0 : (dig 0).length ≤ 0 := Nat.le_refl _
      go_wp2_with fail
      refine (rmade_any false A1 c1 (dig p) wr hr1).mono ?_
      rintro e w4 ⟨rfl, hb4⟩
      have i5 := hk.below hb4 (Nat.le_refl _)
      have hr4 := hr1.below hb4 (Nat.le_refl _)
      have hbel4 := below_trans hbel hb4
      go_wp2_with ((with_reducible show wpList _ _ _ (Oper.mk none (Op.store _ _ _) _ _ _ _ :: _) _ _); refine wp_put (o := ⟨none, .store _ _ _, _, _, _, _⟩) _ _ i5 rfl rfl rfl rfl info_rint rfl rfl ?_; intro w5 i6 g5; obtain ⟨v5, v6, v7, v8⟩ := i6.both)
      rw [HE.out, sok_nat, ← HG.out]
      exact bodyPost_ret (v := .tuple #[iv false A1 (dig p).length c1, .int .i64 0]) (by simp [results, Try.results51, go_sem, v5, v6]) rfl ⟨⟨A1, c1, rfl, hr4.turn g5 i5.ib⟩, below_grown hbel4 g5 hbel4.size (by omega)⟩
    · have hq0 : 0 < (dig q).length := dig_len_pos.2 (by omega)
      have HD := Lib.hid (divR_eq (xs := dig p) (ys := dig q) (right_dig' hl1) (right_dig' hl2) (fun e => hq (dig_eq_nil.1 e)))
      have HQ := Lib.hid hq
      clear hq
      go_wp2_with fail
      refine (rdivmod_any A1 B1 c1 d1 _ _ _ hr1 hr2).mono ?_
      rintro e w4 ⟨⟨A3, c3, B3, d3, rfl, hq3, hr3⟩, hb3⟩
      rw [HD.out, val_dig, val_dig] at hr3 ⊢
      have hy4 := hr2.below hb3 (Nat.le_refl _)
      have hk3 := hk.below hb3 (Nat.le_refl _)
      have hbel4 := below_trans hbel hb3
      go_wp2_with fail
      refine ⟨⟨q, p % q, B1, d1, B3, d3, rfl, rfl, hy4, hr3, hl2, ?_, ?_, hk3, hbel4⟩, ?_⟩
      · have hlt := Nat.mod_lt p (Nat.pos_of_ne_zero HQ.out)
        exact Nat.le_trans (dig_len_mono (Nat.le_of_lt hlt)) hl2
      · exact gcd_step.symm.trans hg.out
      · rw [numAt_eq hr3, numAt_eq hr2]
        exact Nat.mod_lt p (Nat.pos_of_ne_zero HQ.out)
end Go.Proofs.Ytdhikpfppbcjkaa

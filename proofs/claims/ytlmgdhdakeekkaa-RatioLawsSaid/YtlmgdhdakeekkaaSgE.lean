/-
  Contract of touchstoneref03.DivMod.
  Contract of touchstoneref03.Gcd.
-/
import Derived.Test.YtlmgdhdakeekkaaSgD
set_option linter.unusedSimpArgs false
set_option linter.unusedVariables false
namespace Go.Proofs.Ytlmgdhdakeekkaa
open Go.RowKit Num

end Go.Proofs.Ytlmgdhdakeekkaa

namespace Go.Proofs.Ytlmgdhdakeekkaa
open Go.RowKit Num

set_option maxRecDepth 100000 in
set_option maxHeartbeats 1000000 in
theorem rsgcd_any (n m : Bool) (A B : Option Addr) (c d : Nat) (xs ys : List Nat) (w : World) (ha : Rd w A c xs) (hb : Rd w B d ys) :
    Calls Try.prog 24 #[iv n A xs.length c, iv m B ys.length d] w fun e w' => RetI w w' e (sgcdR n xs m ys) := by
  have ha0 := ((ha.alloc (.cells #[.bool n, .slice A xs.length c] 24)).alloc (.cells #[.bool (m), .slice B ys.length d] 24)).alloc (.cells #[.bool false, .slice none 0 0] 24)
  have hy0 := ((hb.alloc (.cells #[.bool n, .slice A xs.length c] 24)).alloc (.cells #[.bool (m), .slice B ys.length d] 24)).alloc (.cells #[.bool false, .slice none 0 0] 24)
  have hb0 := below_alloc (below_alloc (below_alloc1 w (.cells #[.bool n, .slice A xs.length c] 24)) (Nat.le_refl _) (.cells #[.bool (m), .slice B ys.length d] 24)) (Nat.le_refl _) (.cells #[.bool false, .slice none 0 0] 24)
  have k1 : Blk (((w.alloc (.cells #[.bool n, .slice A xs.length c] 24)).alloc (.cells #[.bool (m), .slice B ys.length d] 24)).alloc (.cells #[.bool false, .slice none 0 0] 24)) w.heap.size _ _ := ((Blk.new w 24 #[.bool n, .slice A xs.length c]).alloc _).alloc _
  have k2 : Blk (((w.alloc (.cells #[.bool n, .slice A xs.length c] 24)).alloc (.cells #[.bool (m), .slice B ys.length d] 24)).alloc (.cells #[.bool false, .slice none 0 0] 24)) (w.heap.size + 1) _ _ := (Blk.at_ (by simp)).alloc _
  have k4 : Blk (((w.alloc (.cells #[.bool n, .slice A xs.length c] 24)).alloc (.cells #[.bool (m), .slice B ys.length d] 24)).alloc (.cells #[.bool false, .slice none 0 0] 24)) (w.heap.size + 1 + 1) _ _ := Blk.at_ (by simp)
  rcases Bool.eq_false_or_eq_true (sright n xs) with h1 | h1
  case inr =>
    have HE := Lib.hid (sgcdR_no (n := n) (m := m) (xs := xs) (ys := ys) (by rw [h1]; rfl))
    have H1 := Lib.hid h1
    clear h1
    go_enter Try.func24, Try.ntmps24
    go_wp2_with fail
    refine (srright_any _ A c xs _ ha0).mono ?_
    rintro e w2 ⟨rfl, hb2⟩
    rw [H1.out]
    have j1 := k1.below hb2 (Nat.le_refl _)
    have j2 := k2.below hb2 (Nat.le_refl _)
    have j4 := k4.below hb2 (Nat.le_refl _)
    obtain ⟨v1, v2, _, _⟩ := j1.both
    obtain ⟨v3, v4, _, _⟩ := j2.both
    have ha2 := ha0.below hb2 (Nat.le_refl _)
    have hy2 := hy0.below hb2 (Nat.le_refl _)
    have hbel := below_trans hb0 hb2
    clear hb2 k1 k2 k4 ha0 hy0 hb0
    go_wp2_with ((with_reducible show wpList _ _ _ (Oper.mk none (Op.store _ _ _) _ _ _ _ :: _) _ _); refine wp_put (o := ⟨none, .store _ _ _, _, _, _, _⟩) _ _ j4 rfl rfl rfl rfl info_rint rfl rfl ?_; intro wA a3 gA; obtain ⟨v5, v6, _, _⟩ := a3.both)
    rw [HE.out]
    exact bodyPost_ret (v := .tuple #[iv false none 0 0, .int .i64 2]) (by simp [results, Try.results24, go_sem, v5, v6]) rfl ⟨⟨none, 0, rfl, Rd.nil⟩, below_grown hbel gA (hbel).size (by omega)⟩
  rcases Bool.eq_false_or_eq_true (sright m ys) with h2 | h2
  case inr =>
    have HE := Lib.hid (sgcdR_no (n := n) (m := m) (xs := xs) (ys := ys) (by rw [h1, h2]; rfl))
    have H1 := Lib.hid h1
    have H2 := Lib.hid h2
    clear h1 h2
    go_enter Try.func24, Try.ntmps24
    go_wp2_with fail
    refine (srright_any _ A c xs _ ha0).mono ?_
    rintro e w2 ⟨rfl, hb2⟩
    rw [H1.out]
    have j1 := k1.below hb2 (Nat.le_refl _)
    have j2 := k2.below hb2 (Nat.le_refl _)
    have j4 := k4.below hb2 (Nat.le_refl _)
    obtain ⟨v1, v2, _, _⟩ := j1.both
    obtain ⟨v3, v4, _, _⟩ := j2.both
    have ha2 := ha0.below hb2 (Nat.le_refl _)
    have hy2 := hy0.below hb2 (Nat.le_refl _)
    have hbel := below_trans hb0 hb2
    clear hb2 k1 k2 k4 ha0 hy0 hb0
    go_wp2_with fail
    refine (srright_any _ B d ys _ hy2).mono ?_
    rintro e w3 ⟨rfl, hb3⟩
    rw [H2.out]
    have i1 := j1.below hb3 (Nat.le_refl _)
    have i2 := j2.below hb3 (Nat.le_refl _)
    have i4 := j4.below hb3 (Nat.le_refl _)
    clear v1 v2 v3 v4
    obtain ⟨v1, v2, _, _⟩ := i1.both
    obtain ⟨v3, v4, _, _⟩ := i2.both
    have ha3 := ha2.below hb3 (Nat.le_refl _)
    have hy3 := hy2.below hb3 (Nat.le_refl _)
    have hbel3 := below_trans hbel hb3
    clear hb3 hbel ha2 hy2 j1 j2 j4
    go_wp2_with ((with_reducible show wpList _ _ _ (Oper.mk none (Op.store _ _ _) _ _ _ _ :: _) _ _); refine wp_put (o := ⟨none, .store _ _ _, _, _, _, _⟩) _ _ i4 rfl rfl rfl rfl info_rint rfl rfl ?_; intro wA a3 gA; obtain ⟨v5, v6, _, _⟩ := a3.both)
    rw [HE.out]
    exact bodyPost_ret (v := .tuple #[iv false none 0 0, .int .i64 2]) (by simp [results, Try.results24, go_sem, v5, v6]) rfl ⟨⟨none, 0, rfl, Rd.nil⟩, below_grown hbel3 gA (hbel3).size (by omega)⟩
  have HE := Lib.hid (sgcdR_eq h1 h2)
  have D1 := Lib.hid (right_dig ha.ok (sright_rightB h1))
  have D2 := Lib.hid (right_dig hb.ok (sright_rightB h2))
  have L1 : xs.length ≤ 256 := right_len (sright_rightB h1)
  have L2 : ys.length ≤ 256 := right_len (sright_rightB h2)
  have H1 := Lib.hid h1
  have H2 := Lib.hid h2
  clear h1 h2
  go_enter Try.func24, Try.ntmps24
  go_wp2_with fail
  refine (srright_any _ A c xs _ ha0).mono ?_
  rintro e w2 ⟨rfl, hb2⟩
  rw [H1.out]
  have j1 := k1.below hb2 (Nat.le_refl _)
  have j2 := k2.below hb2 (Nat.le_refl _)
  have j4 := k4.below hb2 (Nat.le_refl _)
  obtain ⟨v1, v2, _, _⟩ := j1.both
  obtain ⟨v3, v4, _, _⟩ := j2.both
  have ha2 := ha0.below hb2 (Nat.le_refl _)
  have hy2 := hy0.below hb2 (Nat.le_refl _)
  have hbel := below_trans hb0 hb2
  clear hb2 k1 k2 k4 ha0 hy0 hb0
  go_wp2_with fail
  refine (srright_any _ B d ys _ hy2).mono ?_
  rintro e w3 ⟨rfl, hb3⟩
  rw [H2.out]
  have i1 := j1.below hb3 (Nat.le_refl _)
  have i2 := j2.below hb3 (Nat.le_refl _)
  have i4 := j4.below hb3 (Nat.le_refl _)
  clear v1 v2 v3 v4
  obtain ⟨v1, v2, _, _⟩ := i1.both
  obtain ⟨v3, v4, _, _⟩ := i2.both
  have ha3 := ha2.below hb3 (Nat.le_refl _)
  have hy3 := hy2.below hb3 (Nat.le_refl _)
  have hbel3 := below_trans hbel hb3
  clear hb3 hbel ha2 hy2 j1 j2 j4
  go_wp2_with fail
  go_quiet (fail)
  go_wp2_with fail
  go_loopw [6, 7] (fun x y wr => ∃ (p q : Nat) (A1 : Option Addr) (c1 : Nat) (B1 : Option Addr) (d1 : Nat), x = .slice A1 (dig p).length c1 ∧ y = .slice B1 (dig q).length d1 ∧ Rd wr A1 c1 (dig p) ∧ Rd wr B1 d1 (dig q) ∧ (dig p).length ≤ 256 ∧ (dig q).length ≤ 256 ∧
      Hid (Nat.gcd p q = Nat.gcd (val xs) (val ys)) ∧ Blk wr (w.heap.size + 1 + 1) 24 #[.bool false, .slice none 0 0] ∧ Below w.heap.size w wr) (fun _ y wr => numAt wr y)
  case atStart =>
    refine ⟨val xs, val ys, A, c, B, d, ?_, ?_, ?_, ?_, ?_, ?_, rfl, i4.drewN _, hbel3.trans ((Read.refl w3).drewN _ |>.below _)⟩
    · rw [D1.out]
    · rw [D2.out]
    · rw [D1.out]; exact ha3.drewN _
    · rw [D2.out]; exact hy3.drewN _
    · rw [D1.out]; exact L1
    · rw [D2.out]; exact L2
  case round =>
    obtain ⟨p, q, A1, c1, B1, d1, rfl, rfl, hr1, hr2, hl1, hl2, hg, hk, hbel⟩ := hrel
    by_cases hq : q = 0
    · subst hq
      have HG : Hid (p = Nat.gcd (val xs) (val ys)) := hg.out.symm.trans (Nat.gcd_zero_right p) |>.symm
      have hq0 : (dig 0).length ≤ 0 := Nat.le_refl _
      go_wp2_with fail
      refine (rmade_any false A1 c1 (dig p) wr hr1).mono ?_
      rintro e w4 ⟨rfl, hb4⟩
      have i5 := hk.below hb4 (Nat.le_refl _)
      have hr4 := hr1.below hb4 (Nat.le_refl _)
      have hbel4 := below_trans hbel hb4
      go_wp2_with ((with_reducible show wpList _ _ _ (Oper.mk none (Op.store _ _ _) _ _ _ _ :: _) _ _); refine wp_put (o := ⟨none, .store _ _ _, _, _, _, _⟩) _ _ i5 rfl rfl rfl rfl info_rint rfl rfl ?_; intro w5 i6 g5; obtain ⟨v5, v6, v7, v8⟩ := i6.both)
      rw [HE.out, sok_nat, ← HG.out]
      exact bodyPost_ret (v := .tuple #[iv false A1 (dig p).length c1, .int .i64 0]) (by simp [results, Try.results24, go_sem, v5, v6]) rfl ⟨⟨A1, c1, rfl, hr4.turn g5 i5.ib⟩, below_grown hbel4 g5 hbel4.size (by omega)⟩
    · have hq0 : 0 < (dig q).length := dig_len_pos.2 (by omega)
      have HD := Lib.hid (divR_eq (xs := dig p) (ys := dig q) (right_dig' hl1) (right_dig' hl2) (fun e => hq (dig_eq_nil.1 e)))
      have HQ := Lib.hid hq
      clear hq
      go_wp2_with fail
      refine (rdivmod_any A1 B1 c1 d1 _ _ _ hr1 hr2).mono ?_
      rintro e w4 ⟨⟨A3, c3, B3, d3, rfl, hq3, hr3⟩, hb3⟩
      rw [HD.out, val_dig, val_dig] at hr3 ⊢
      have hy4 := hr2.below hb3 (Nat.le_refl _)
      have hk3 := hk.below hb3 (Nat.le_refl _)
      have hbel4 := below_trans hbel hb3
      go_wp2_with fail
      refine ⟨⟨q, p % q, B1, d1, B3, d3, rfl, rfl, hy4, hr3, hl2, ?_, ?_, hk3, hbel4⟩, ?_⟩
      · have hlt := Nat.mod_lt p (Nat.pos_of_ne_zero HQ.out)
        exact Nat.le_trans (dig_len_mono (Nat.le_of_lt hlt)) hl2
      · exact gcd_step.symm.trans hg.out
      · rw [numAt_eq hr3, numAt_eq hr2]
        exact Nat.mod_lt p (Nat.pos_of_ne_zero HQ.out)
end Go.Proofs.Ytlmgdhdakeekkaa

/-
  Contracts of fractions: whole ones, the fraction of two numbers, and the document's.
-/
import Derived.Test.YtlmgdhdakeekkaaQb
set_option linter.unusedSimpArgs false
set_option linter.unusedVariables false
namespace Go.Proofs.Ytlmgdhdakeekkaa
open Go.RowKit Num

theorem sadd_zero {n : Bool} {xs : List Nat} (ho : Ok xs) (h : sright n xs = true) : saddR n xs false [] = (n, xs, 0) := by
  rw [saddR_eq h rfl]
  have e : sv false [] = 0 := rfl
  rw [e, Int.add_zero, sfit_of (by rw [sv_dig ho h]; exact sright_len h)]
  unfold sok
  rw [sv_neg ho h, sv_dig ho h]
set_option maxRecDepth 100000 in
theorem qof_any (z : Int) (w : World) (hz : -9223372036854775808 ≤ z) (hz' : z ≤ 9223372036854775807) :
    Calls Try.prog 22 #[.int .i64 z] w fun e w' => RetQ w w' e (sN z) (sD z) false [1] := by
  have M : Mem w (w.alloc (.cells #[.bool false, .slice none 0 0, .bool false, .slice none 0 0] 32)) [(w.heap.size, 32, #[.bool false, .slice none 0 0, .bool false, .slice none 0 0])] [] := (Mem.start w).new 32 #[.bool false, .slice none 0 0, .bool false, .slice none 0 0]
  go_enter Try.func22, Try.ntmps22
  go_wp2_with fail
  refine (sof_any z _ hz hz').mono ?_
  rintro e w2 ⟨⟨A2, c2, rfl, h⟩, q⟩
  replace M := (M.below q).addR h
  clear q h
  go_wp2_with fail
  refine (sof_any 1 _ (by decide) (by decide)).mono ?_
  rintro e w3 ⟨⟨A3, c3, rfl, h⟩, q⟩
  replace M := (M.below q).addR h
  clear q h
  go_wp2_with ((with_reducible show wpList _ _ _ (Oper.mk none (Op.store _ _ _) _ _ _ _ :: _) _ _); refine wp_put (o := ⟨none, .store _ _ _, _, _, _, _⟩) _ _ (M.k (i := 0) rfl) rfl rfl rfl rfl info_rat rfl rfl ?_; intro w4 b4 g4; replace M := M.row (by omega) (by simp) rfl b4 g4; obtain ⟨v1, v2, v3, v4⟩ := (M.k (i := 0) rfl).four)
  show bodyPost _ _ (fun e w' => RetQ w w' e (sN z) (sD z) (sN 1) (sD 1)) _ _ _
  refine bodyPost_ret (v := rv (sN z) A2 (sD z).length c2 (sN 1) A3 (sD 1).length c3) (by simp [results, Try.results22, go_sem, v1, v2, v3, v4]) rfl ⟨⟨A2, c2, A3, c3, rfl, M.r (i := 1) rfl, M.r (i := 0) rfl⟩, M.bel⟩
set_option maxRecDepth 100000 in
set_option maxHeartbeats 4000000 in
theorem qmake_any {n m : Bool} {A B : Option Addr} {c d : Nat} {xs ys : List Nat} {w : World} (ha : Rd w A c xs) (hb : Rd w B d ys) :
    Calls Try.prog 17 #[iv n A xs.length c, iv m B ys.length d] w fun e w' => RetQE w w' e (qmakeR n xs m ys) := by
  have M : Mem w (((w.alloc (.cells #[.bool n, .slice A xs.length c] 30)).alloc (.cells #[.bool m, .slice B ys.length d] 30)).alloc (.cells #[.bool false, .slice none 0 0, .bool false, .slice none 0 0] 32)) [(w.heap.size + 1 + 1, 32, #[.bool false, .slice none 0 0, .bool false, .slice none 0 0]), (w.heap.size + 1, 30, #[.bool m, .slice B ys.length d]), (w.heap.size, 30, #[.bool n, .slice A xs.length c])] [(B, d, ys), (A, c, xs)] :=
    ((((((Mem.start w).addR ha).addR hb).new 30 #[.bool n, .slice A xs.length c]).newAt (by simp) 30 #[.bool m, .slice B ys.length d]).newAt (by simp) 32 #[.bool false, .slice none 0 0, .bool false, .slice none 0 0])
  have ox := ha.ok
  have oy := hb.ok
  clear ha hb
  obtain ⟨v1, v2, _, _⟩ := (M.k (i := 2) rfl).both
  obtain ⟨v3, v4, _, _⟩ := (M.k (i := 1) rfl).both
  rcases Bool.eq_false_or_eq_true (sright n xs && sright m ys) with h | h
  case inr =>
    have HG := Lib.hid (sgcdR_no h)
    have HE : Hid (qmakeR n xs m ys = dbad 2) := by show _ = _; simp only [Bool.and_eq_false_iff] at h; unfold qmakeR; rcases h with h | h <;> rw [h] <;> simp
    clear h ox oy
    go_enter Try.func17, Try.ntmps17
    go_wp2_with fail
    refine (sgcd_any _ _ A B c d _ _ _ (M.r (i := 1) rfl) (M.r (i := 0) rfl)).mono ?_
    rw [HG.out]
    rintro e w2 ⟨⟨A2, c2, rfl, h⟩, q⟩
    replace M := (M.below q).addR h
    have p2 := (M.k (i := 0) rfl).lt
    replace M := M.new 30 #[.bool false, .slice A2 (([] : List Nat)).length c2]
    clear q h v1 v2 v3 v4
    obtain ⟨v1, v2, _, _⟩ := (M.k (i := 0) rfl).both
    obtain ⟨v3, v4, _, _⟩ := (M.k (i := 2) rfl).both
    obtain ⟨v5, v6, _, _⟩ := (M.k (i := 3) rfl).both
    go_wp2_with ((with_reducible show wpList _ _ _ (Oper.mk none (Op.store _ _ _) _ _ _ _ :: _) _ _); refine wp_put (o := ⟨none, .store _ _ _, _, _, _, _⟩) _ _ (M.k (i := 1) rfl) rfl rfl rfl rfl info_rat rfl rfl ?_; intro w4 b4 g4; replace M := M.rowAt (i := 1) rfl (by omega) (by simp <;> omega) rfl b4 g4; obtain ⟨f1, f2, f3, f4⟩ := (M.k (i := 1) rfl).four)
    rw [HE.out]
    exact bodyPost_ret (v := .tuple #[rv false none 0 0 false none 0 0, .int .i64 2]) (by simp [results, Try.results17, go_sem, f1, f2, f3, f4]) rfl ⟨⟨none, 0, none, 0, rfl, Rd.nil, Rd.nil⟩, M.bel⟩
  simp only [Bool.and_eq_true] at h
  obtain ⟨h1, h2⟩ := h
  by_cases hy : ys = []
  · subst hy
    have HG := Lib.hid (sgcd_sok h1 h2)
    have HE : Hid (qmakeR n xs m [] = dbad 2) := by show _ = _; unfold qmakeR; simp
    clear h1 h2 ox oy
    go_enter Try.func17, Try.ntmps17
    go_wp2_with fail
    refine (sgcd_any _ _ A B c d _ _ _ (M.r (i := 1) rfl) (M.r (i := 0) rfl)).mono ?_
    rw [HG.out]
    rintro e w2 ⟨⟨A2, c2, rfl, h⟩, q⟩
    replace M := (M.below q).addR h
    have p2 := (M.k (i := 0) rfl).lt
    replace M := M.new 30 #[.bool false, .slice A2 (dig (Nat.gcd (val xs) (val []))).length c2]
    clear q h v1 v2 v3 v4
    obtain ⟨v1, v2, _, _⟩ := (M.k (i := 0) rfl).both
    obtain ⟨v3, v4, _, _⟩ := (M.k (i := 2) rfl).both
    obtain ⟨v5, v6, _, _⟩ := (M.k (i := 3) rfl).both
    go_wp2_with ((with_reducible show wpList _ _ _ (Oper.mk none (Op.store _ _ _) _ _ _ _ :: _) _ _); refine wp_put (o := ⟨none, .store _ _ _, _, _, _, _⟩) _ _ (M.k (i := 1) rfl) rfl rfl rfl rfl info_rat rfl rfl ?_; intro w4 b4 g4; replace M := M.rowAt (i := 1) rfl (by omega) (by simp <;> omega) rfl b4 g4; obtain ⟨f1, f2, f3, f4⟩ := (M.k (i := 1) rfl).four)
    rw [HE.out]
    exact bodyPost_ret (v := .tuple #[rv false none 0 0 false none 0 0, .int .i64 2]) (by simp [results, Try.results17, go_sem, f1, f2, f3, f4]) rfl ⟨⟨none, 0, none, 0, rfl, Rd.nil, Rd.nil⟩, M.bel⟩
  have d3 : ((ys.length : Int) == 0) = false := by simp; exact hy
  obtain ⟨gd, hg, hn, hN, hD, -, -, -, -, lN, lD⟩ := make_facts ox oy h1 h2 hy
  have HE : Hid (qmakeR n xs m ys = if (sD (toQ n xs m ys).num).length ≤ 64 ∧ (dig (toQ n xs m ys).den).length ≤ 64 then (sN (toQ n xs m ys).num, sD (toQ n xs m ys).num, false, dig (toQ n xs m ys).den, 0) else dbad 3) := by show _ = _; unfold qmakeR; rw [h1, h2, decide_eq_true hy]; rfl
  generalize toQ n xs m ys = qq at *
  generalize sN qq.num = qn at *
  generalize sD qq.num = qd at *
  generalize dig qq.den = dd at *
  have HG := Lib.hid hg
  have HS := Lib.hid hn
  have HN := Lib.hid hN
  have HD := Lib.hid hD
  clear hg hn hN hD h1 h2 hy ox oy
  go_enter Try.func17, Try.ntmps17
  go_wp2_with fail
  refine (sgcd_any _ _ A B c d _ _ _ (M.r (i := 1) rfl) (M.r (i := 0) rfl)).mono ?_
  rw [HG.out]
  rintro e w2 ⟨⟨A2, c2, rfl, h⟩, q⟩
  replace M := (M.below q).addR h
  have p2 := (M.k (i := 0) rfl).lt
  replace M := M.new 30 #[.bool false, .slice A2 (gd).length c2]
  clear q h v1 v2 v3 v4
  obtain ⟨v1, v2, _, _⟩ := (M.k (i := 0) rfl).both
  obtain ⟨v3, v4, _, _⟩ := (M.k (i := 2) rfl).both
  obtain ⟨v5, v6, _, _⟩ := (M.k (i := 3) rfl).both
  go_upto_if 30 with fail
  generalize hz6 : w2.heap.size = z6 at *
  generalize w2.alloc (.cells #[.bool false, .slice A2 gd.length c2] 30) = W at *
  go_cut [] (fun wx => ∃ A6 c6, Mem w wx [(z6, 30, #[.bool m, .slice A6 gd.length c6]), (w.heap.size + 1 + 1, 32, #[.bool false, .slice none 0 0, .bool false, .slice none 0 0]), (w.heap.size + 1, 30, #[.bool m, .slice B ys.length d]), (w.heap.size, 30, #[.bool n, .slice A xs.length c])] [(A6, c6, gd), (B, d, ys), (A, c, xs)])
  case first =>
    obtain ⟨v1, v2, _, _⟩ := (M.k (i := 0) rfl).both
    obtain ⟨v3, v4, _, _⟩ := (M.k (i := 2) rfl).both
    cases m
    case false =>
      go_wp2_with fail
      go_meet
      exact ⟨A2, c2, M⟩
    case true =>
      go_wp2_with fail
      refine (sneg_any false A2 c2 gd _ (M.r (i := 0) rfl)).mono ?_
      rw [HS.out]
      rintro e w3 ⟨⟨A3, c3, rfl, h⟩, q⟩
      replace M := (M.below q).addR h
      go_wp2_with ((with_reducible show wpList _ _ _ (Oper.mk none (Op.store _ _ _) _ _ _ _ :: _) _ _); refine wp_put (o := ⟨none, .store _ _ _, _, _, _, _⟩) _ _ (M.k (i := 0) rfl) rfl rfl rfl rfl info_int rfl rfl ?_; intro w4 b4 g4; replace M := M.rowAt (i := 0) rfl (by omega) (by simp <;> omega) rfl b4 g4)
      go_meet
      exact ⟨A3, c3, M.sub (by simp) (by simp)⟩
  case rest =>
    clear M v1 v2 v3 v4 v5 v6
    obtain ⟨A6, c6, M⟩ := hcut
    obtain ⟨v1, v2, _, _⟩ := (M.k (i := 0) rfl).both
    obtain ⟨v3, v4, _, _⟩ := (M.k (i := 3) rfl).both
    go_wp2_with fail
    refine (sdivmod_any _ _ A A6 c c6 _ _ _ (M.r (i := 2) rfl) (M.r (i := 0) rfl)).mono ?_
    rw [HN.out]
    rintro e w5 ⟨⟨A8, c8, B8, d8, rfl, h, k⟩, q⟩
    replace M := ((M.below q).addR k).addR h
    have p5 := (M.k (i := 0) rfl).lt
    replace M := (M.new 30 #[.bool qn, .slice A8 qd.length c8]).newAt (g := w5.heap.size + 1) (by simp) 30 #[.bool false, .slice B8 0 d8]
    clear q h k v1 v2 v3 v4
    obtain ⟨v1, v2, _, _⟩ := (M.k (i := 2) rfl).both
    obtain ⟨v3, v4, _, _⟩ := (M.k (i := 4) rfl).both
    go_wp2_with fail
    refine (sdivmod_any _ _ B A6 d c6 _ _ _ (M.r (i := 3) rfl) (M.r (i := 2) rfl)).mono ?_
    rw [HD.out]
    rintro e w7 ⟨⟨A9, c9, B9, d9, rfl, h, k⟩, q⟩
    replace M := ((M.below q).addR k).addR h
    have p7 := (M.k (i := 0) rfl).lt
    replace M := (M.new 30 #[.bool false, .slice A9 dd.length c9]).newAt (g := w7.heap.size + 1) (by simp) 30 #[.bool false, .slice B9 0 d9]
    clear q h k v1 v2 v3 v4
    obtain ⟨v1, v2, _, _⟩ := (M.k (i := 1) rfl).both
    obtain ⟨v3, v4, _, _⟩ := (M.k (i := 3) rfl).both
    by_cases hf1 : 64 < qd.length
    · go_wp2_with ((with_reducible show wpList _ _ _ (Oper.mk none (Op.store _ _ _) _ _ _ _ :: _) _ _); refine wp_put (o := ⟨none, .store _ _ _, _, _, _, _⟩) _ _ (M.k (i := 5) rfl) rfl rfl rfl rfl info_rat rfl rfl ?_; intro w4 b4 g4; replace M := M.rowAt (i := 5) rfl (by omega) (by simp <;> omega) rfl b4 g4; obtain ⟨f1, f2, f3, f4⟩ := (M.k (i := 5) rfl).four)
      rw [HE.out, if_neg (by omega)]
      exact bodyPost_ret (v := .tuple #[rv false none 0 0 false none 0 0, .int .i64 3]) (by simp [results, Try.results17, go_sem, f1, f2, f3, f4]) rfl ⟨⟨none, 0, none, 0, rfl, Rd.nil, Rd.nil⟩, M.bel⟩
    have d1 : decide ((64 : Int) < (qd.length : Int)) = false := decide_eq_false (by omega)
    by_cases hf2 : 64 < dd.length
    · go_wp2_with ((with_reducible show wpList _ _ _ (Oper.mk none (Op.store _ _ _) _ _ _ _ :: _) _ _); refine wp_put (o := ⟨none, .store _ _ _, _, _, _, _⟩) _ _ (M.k (i := 5) rfl) rfl rfl rfl rfl info_rat rfl rfl ?_; intro w4 b4 g4; replace M := M.rowAt (i := 5) rfl (by omega) (by simp <;> omega) rfl b4 g4; obtain ⟨f1, f2, f3, f4⟩ := (M.k (i := 5) rfl).four)
      rw [HE.out, if_neg (by omega)]
      exact bodyPost_ret (v := .tuple #[rv false none 0 0 false none 0 0, .int .i64 3]) (by simp [results, Try.results17, go_sem, f1, f2, f3, f4]) rfl ⟨⟨none, 0, none, 0, rfl, Rd.nil, Rd.nil⟩, M.bel⟩
    have d2 : decide ((64 : Int) < (dd.length : Int)) = false := decide_eq_false (by omega)
    go_wp2_with ((with_reducible show wpList _ _ _ (Oper.mk none (Op.store _ _ _) _ _ _ _ :: _) _ _); refine wp_put (o := ⟨none, .store _ _ _, _, _, _, _⟩) _ _ (M.k (i := 5) rfl) rfl rfl rfl rfl info_rat rfl rfl ?_; intro w4 b4 g4; replace M := M.rowAt (i := 5) rfl (by omega) (by simp <;> omega) rfl b4 g4; obtain ⟨f1, f2, f3, f4⟩ := (M.k (i := 5) rfl).four)
    rw [HE.out, if_pos (by omega)]
    exact bodyPost_ret (v := .tuple #[rv qn A8 qd.length c8 false A9 dd.length c9, .int .i64 0]) (by simp [results, Try.results17, go_sem, f1, f2, f3, f4]) rfl ⟨⟨A8, c8, A9, c9, rfl, M.r (i := 2) rfl, M.r (i := 0) rfl⟩, M.bel⟩
end Go.Proofs.Ytlmgdhdakeekkaa

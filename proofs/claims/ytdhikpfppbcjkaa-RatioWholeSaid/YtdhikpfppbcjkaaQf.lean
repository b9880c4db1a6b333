/-
  Contracts of the document's fractions.
-/
import Derived.Test.YtdhikpfppbcjkaaQe
import Derived.Test.YtdhikpfppbcjkaaRefT
set_option linter.unusedSimpArgs false
set_option linter.unusedVariables false
namespace Go.Proofs.Ytdhikpfppbcjkaa
open Go.RowKit Num

theorem times_use {n m r1 : Bool} {A B : Option Addr} {c d : Nat} {xs ys r2 : List Nat} {w : World} (h1 : sright n xs = true) (h2 : sright m ys = true) (hr : smulR n xs m ys = (r1, r2, 0)) (ha : Rd w A c xs) (hb : Rd w B d ys) :
    Calls Try.prog 62 #[iv n A xs.length c, iv m B ys.length d] w fun e w' => RetN w w' e (r1, r2) := by
  have h := times_eq (n := n) (m := m) (right_dig ha.ok (sright_rightB h1)) (right_dig hb.ok (sright_rightB h2)) ha hb (Nat.le_trans (sright_len h1) (by decide)) (Nat.le_trans (sright_len h2) (by decide))
  rw [smulR_eq h1 h2] at hr
  unfold sfit at hr
  split at hr
  · rw [← sv_zn, ← sv_zn] at h
    unfold sok at hr
    injection hr with f1 f2
    injection f2 with f2 f3
    rw [f1, f2] at h
    exact h
  · have := congrArg (fun r : R3 => r.2.2) hr
    simp [sbad] at this
theorem sum_use {n m r1 : Bool} {A B : Option Addr} {c d : Nat} {xs ys r2 : List Nat} {w : World} (h1 : sright n xs = true) (h2 : sright m ys = true) (hr : saddR n xs m ys = (r1, r2, 0)) (ha : Rd w A c xs) (hb : Rd w B d ys) :
    Calls Try.prog 55 #[iv n A xs.length c, iv m B ys.length d] w fun e w' => RetN w w' e (r1, r2) := by
  have h := sum_eq (n := n) (m := m) (right_dig ha.ok (sright_rightB h1)) (right_dig hb.ok (sright_rightB h2)) ha hb (Nat.le_trans (sright_len h1) (by decide)) (Nat.le_trans (sright_len h2) (by decide))
  rw [saddR_eq h1 h2] at hr
  unfold sfit at hr
  split at hr
  · rw [← sv_zn, ← sv_zn] at h
    unfold sok at hr
    injection hr with f1 f2
    injection f2 with f2 f3
    rw [f1, f2] at h
    exact h
  · have := congrArg (fun r : R3 => r.2.2) hr
    simp [sbad] at this
set_option maxRecDepth 100000 in
set_option maxHeartbeats 4000000 in
theorem rqmade_any {n m : Bool} {A B : Option Addr} {c d : Nat} {xs ys : List Nat} {w : World} (h1 : sright n xs = true) (h2 : sright m ys = true) (hy : ys ≠ []) (ha : Rd w A c xs) (hb : Rd w B d ys) :
    Calls Try.prog 49 #[iv n A xs.length c, iv m B ys.length d] w fun e w' => RetQE w w' e (fitQ (toQ n xs m ys)) := by
  have M : Mem w (((w.alloc (.cells #[.bool n, .slice A xs.length c] 24)).alloc (.cells #[.bool m, .slice B ys.length d] 24)).alloc (.cells #[.bool false, .slice none 0 0, .bool false, .slice none 0 0] 26)) [(w.heap.size + 1 + 1, 26, #[.bool false, .slice none 0 0, .bool false, .slice none 0 0]), (w.heap.size + 1, 24, #[.bool m, .slice B ys.length d]), (w.heap.size, 24, #[.bool n, .slice A xs.length c])] [(B, d, ys), (A, c, xs)] :=
    ((((((Mem.start w).addR ha).addR hb).new 24 #[.bool n, .slice A xs.length c]).newAt (by simp) 24 #[.bool m, .slice B ys.length d]).newAt (by simp) 26 #[.bool false, .slice none 0 0, .bool false, .slice none 0 0])
  obtain ⟨gd, hg, -, -, -, hN, hD, hs1, hs2, lN, lD⟩ := make_facts ha.ok hb.ok h1 h2 hy
  clear ha hb
  have HE : Hid (fitQ (toQ n xs m ys) = if (sD (toQ n xs m ys).num).length ≤ 64 ∧ (dig (toQ n xs m ys).den).length ≤ 64 then (sN (toQ n xs m ys).num, sD (toQ n xs m ys).num, false, dig (toQ n xs m ys).den, 0) else dbad 3) := rfl
  have HG := Lib.hid hg
  generalize hsn : (if m then -(toQ n xs m ys).num else (toQ n xs m ys).num) = sm at *
  have HS1 : Hid (m = true → snegR (sN sm) (sD (toQ n xs m ys).num) = (sN (toQ n xs m ys).num, sD (toQ n xs m ys).num, 0)) := fun e => by rw [e] at hsn; rw [← hsn, if_pos rfl]; rw [← e]; exact hs1
  have HS0 : Hid (m = false → sN sm = sN (toQ n xs m ys).num) := fun e => by rw [e] at hsn; rw [← hsn, if_neg (by simp), e]
  generalize toQ n xs m ys = qq at *
  generalize sN sm = sq at *
  generalize sN qq.num = qn at *
  generalize sD qq.num = qd at *
  generalize dig qq.den = dd at *
  have HN := Lib.hid hN
  have HD := Lib.hid hD
  have HS2 := Lib.hid hs2
  clear hg hN hD h1 h2 hy hs1 hs2 hsn
  obtain ⟨v1, v2, _, _⟩ := (M.k (i := 2) rfl).both
  obtain ⟨v3, v4, _, _⟩ := (M.k (i := 1) rfl).both
  go_enter Try.func49, Try.ntmps49
  go_wp2_with fail
  refine (rsgcd_any _ _ A B c d _ _ _ (M.r (i := 1) rfl) (M.r (i := 0) rfl)).mono ?_
  rw [HG.out]
  rintro e w2 ⟨⟨A6, c6, rfl, h⟩, q⟩
  replace M := (M.below q).addR h
  have p2 := (M.k (i := 0) rfl).lt
  replace M := M.new 24 #[.bool false, .slice A6 gd.length c6]
  clear q h v1 v2 v3 v4
  obtain ⟨v1, v2, _, _⟩ := (M.k (i := 0) rfl).both
  obtain ⟨v3, v4, _, _⟩ := (M.k (i := 3) rfl).both
  go_wp2_with fail
  refine (rsdivmod_any _ _ A A6 c c6 _ _ _ (M.r (i := 2) rfl) (M.r (i := 0) rfl)).mono ?_
  rw [HN.out]
  rintro e w5 ⟨⟨A8, c8, B8, d8, rfl, h, k⟩, q⟩
  replace M := ((M.below q).addR k).addR h
  have p5 := (M.k (i := 0) rfl).lt
  replace M := (M.new 24 #[.bool sq, .slice A8 qd.length c8]).newAt (g := w5.heap.size + 1) (by simp) 24 #[.bool false, .slice B8 0 d8]
  clear q h k v1 v2 v3 v4
  obtain ⟨v1, v2, _, _⟩ := (M.k (i := 2) rfl).both
  obtain ⟨v3, v4, _, _⟩ := (M.k (i := 4) rfl).both
  go_wp2_with fail
  refine (rsdivmod_any _ _ B A6 d c6 _ _ _ (M.r (i := 3) rfl) (M.r (i := 2) rfl)).mono ?_
  rw [HD.out]
  rintro e w7 ⟨⟨A9, c9, B9, d9, rfl, h, k⟩, q⟩
  replace M := ((M.below q).addR k).addR h
  have p7 := (M.k (i := 0) rfl).lt
  replace M := (M.new 24 #[.bool m, .slice A9 dd.length c9]).newAt (g := w7.heap.size + 1) (by simp) 24 #[.bool false, .slice B9 0 d9]
  clear q h k v1 v2 v3 v4
  go_upto_if 35 with fail
  generalize hz7 : w7.heap.size = z7 at *
  generalize (w7.alloc (.cells #[.bool m, .slice A9 dd.length c9] 24)).alloc (.cells #[.bool false, .slice B9 0 d9] 24) = W at *
  go_cut [] (fun wx => ∃ A10 c10 A11 c11, Mem w wx [(z7, 24, #[.bool false, .slice A11 dd.length c11]), (w5.heap.size, 24, #[.bool qn, .slice A10 qd.length c10]), (w.heap.size + 1 + 1, 26, #[.bool false, .slice none 0 0, .bool false, .slice none 0 0])] [(A11, c11, dd), (A10, c10, qd)])
  case first =>
    obtain ⟨v1, v2, _, _⟩ := (M.k (i := 1) rfl).both
    obtain ⟨v3, v4, _, _⟩ := (M.k (i := 3) rfl).both
    cases m
    case false =>
      obtain rfl := HS0.out rfl
      go_wp2_with fail
      go_meet
      exact ⟨A8, c8, A9, c9, M.sub (by simp) (by simp)⟩
    case true =>
      have hs1 := HS1.out rfl
      have HS1 := Lib.hid hs1
      clear hs1
      go_wp2_with fail
      refine (rsneg_any _ A8 c8 _ _ (M.r (i := 2) rfl)).mono ?_
      rw [HS1.out]
      rintro e w3 ⟨⟨A10, c10, rfl, h⟩, q⟩
      replace M := (M.below q).addR h
      clear q h v1 v2 v3 v4
      go_wp2_with ((with_reducible show wpList _ _ _ (Oper.mk none (Op.store _ _ _) _ _ _ _ :: _) _ _); refine wp_put (o := ⟨none, .store _ _ _, _, _, _, _⟩) _ _ (M.k (i := 3) rfl) rfl rfl rfl rfl info_rint rfl rfl ?_; intro w4 b4 g4; replace M := M.rowAt (i := 3) rfl (by omega) (by simp <;> omega) rfl b4 g4; obtain ⟨v1, v2, _, _⟩ := (M.k (i := 1) rfl).both)
      refine (rsneg_any _ A9 c9 _ _ (M.r (i := 1) rfl)).mono ?_
      rw [HS2.out]
      rintro e w6 ⟨⟨A11, c11, rfl, h⟩, q⟩
      replace M := (M.below q).addR h
      clear q h v1 v2
      go_wp2_with ((with_reducible show wpList _ _ _ (Oper.mk none (Op.store _ _ _) _ _ _ _ :: _) _ _); refine wp_put (o := ⟨none, .store _ _ _, _, _, _, _⟩) _ _ (M.k (i := 1) rfl) rfl rfl rfl rfl info_rint rfl rfl ?_; intro w4 b4 g4; replace M := M.rowAt (i := 1) rfl (by omega) (by simp <;> omega) rfl b4 g4)
      go_meet
      exact ⟨A10, c10, A11, c11, M.sub (by simp) (by simp)⟩
      all_goals trivial
  case rest =>
    clear M
    obtain ⟨A10, c10, A11, c11, M⟩ := hcut
    obtain ⟨v1, v2, _, _⟩ := (M.k (i := 0) rfl).both
    obtain ⟨v3, v4, _, _⟩ := (M.k (i := 1) rfl).both
    by_cases hf1 : 64 < qd.length
    · go_wp2_with ((with_reducible show wpList _ _ _ (Oper.mk none (Op.store _ _ _) _ _ _ _ :: _) _ _); refine wp_put (o := ⟨none, .store _ _ _, _, _, _, _⟩) _ _ (M.k (i := 2) rfl) rfl rfl rfl rfl info_rrat rfl rfl ?_; intro w4 b4 g4; replace M := M.rowAt (i := 2) rfl (by omega) (by simp <;> omega) rfl b4 g4; obtain ⟨f1, f2, f3, f4⟩ := (M.k (i := 2) rfl).four)
      rw [HE.out, if_neg (by omega)]
      exact bodyPost_ret (v := .tuple #[rv false none 0 0 false none 0 0, .int .i64 3]) (by simp [results, Try.results49, go_sem, f1, f2, f3, f4]) rfl ⟨⟨none, 0, none, 0, rfl, Rd.nil, Rd.nil⟩, M.bel⟩
    have d1 : decide ((64 : Int) < (qd.length : Int)) = false := decide_eq_false (by omega)
    by_cases hf2 : 64 < dd.length
    · go_wp2_with ((with_reducible show wpList _ _ _ (Oper.mk none (Op.store _ _ _) _ _ _ _ :: _) _ _); refine wp_put (o := ⟨none, .store _ _ _, _, _, _, _⟩) _ _ (M.k (i := 2) rfl) rfl rfl rfl rfl info_rrat rfl rfl ?_; intro w4 b4 g4; replace M := M.rowAt (i := 2) rfl (by omega) (by simp <;> omega) rfl b4 g4; obtain ⟨f1, f2, f3, f4⟩ := (M.k (i := 2) rfl).four)
      rw [HE.out, if_neg (by omega)]
      exact bodyPost_ret (v := .tuple #[rv false none 0 0 false none 0 0, .int .i64 3]) (by simp [results, Try.results49, go_sem, f1, f2, f3, f4]) rfl ⟨⟨none, 0, none, 0, rfl, Rd.nil, Rd.nil⟩, M.bel⟩
    have d2 : decide ((64 : Int) < (dd.length : Int)) = false := decide_eq_false (by omega)
    go_wp2_with ((with_reducible show wpList _ _ _ (Oper.mk none (Op.store _ _ _) _ _ _ _ :: _) _ _); refine wp_put (o := ⟨none, .store _ _ _, _, _, _, _⟩) _ _ (M.k (i := 2) rfl) rfl rfl rfl rfl info_rrat rfl rfl ?_; intro w4 b4 g4; replace M := M.rowAt (i := 2) rfl (by omega) (by simp <;> omega) rfl b4 g4; obtain ⟨f1, f2, f3, f4⟩ := (M.k (i := 2) rfl).four)
    rw [HE.out, if_pos (by omega)]
    exact bodyPost_ret (v := .tuple #[rv qn A10 qd.length c10 false A11 dd.length c11, .int .i64 0]) (by simp [results, Try.results49, go_sem, f1, f2, f3, f4]) rfl ⟨⟨A10, c10, A11, c11, rfl, M.r (i := 1) rfl, M.r (i := 0) rfl⟩, M.bel⟩
theorem rqmade_use {n m : Bool} {A B : Option Addr} {c d : Nat} {xs ys : List Nat} {w : World} {r : R5} (h1 : sright n xs = true) (h2 : sright m ys = true) (hy : ys ≠ []) (hr : qmakeR n xs m ys = r) (ha : Rd w A c xs) (hb : Rd w B d ys) :
    Calls Try.prog 49 #[iv n A xs.length c, iv m B ys.length d] w fun e w' => RetQE w w' e r := by
  subst hr
  have h := rqmade_any h1 h2 hy ha hb
  unfold qmakeR
  rw [h1, h2, decide_eq_true hy]
  exact h
end Go.Proofs.Ytdhikpfppbcjkaa

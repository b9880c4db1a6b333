/-
  Contracts of fractions: sums, products, quotients, order.
-/
import Derived.Test.YtlmgdhdakeekkaaQc
set_option linter.unusedSimpArgs false
set_option linter.unusedVariables false
namespace Go.Proofs.Ytlmgdhdakeekkaa
open Go.RowKit Num

theorem info_term : (Try.prog.info? 58).map (·.size) = some 3 := by kernel_rfl
/-- A number and an error in one struct are told. -/
def RetT (w w' : World) (e : Ending) (r : R3) : Prop := (∃ A c, e = .returned (.agg #[.bool r.1, .slice A r.2.1.length c, .int .i64 r.2.2]) ∧ Rd w' A c r.2.1) ∧ Below w.heap.size w w'
set_option maxRecDepth 100000 in
theorem times_any {n m : Bool} {A B : Option Addr} {c d : Nat} {xs ys : List Nat} {w : World} {r : R3} (hr : smulR n xs m ys = r) (ha : Rd w A c xs) (hb : Rd w B d ys) :
    Calls Try.prog 28 #[iv n A xs.length c, iv m B ys.length d] w fun e w' => RetT w w' e r := by
  obtain ⟨r1, r2, r3⟩ := r
  have HR := Lib.hid hr
  have M : Mem w (((w.alloc (.cells #[.bool n, .slice A xs.length c] 30)).alloc (.cells #[.bool m, .slice B ys.length d] 30)).alloc (.cells #[.bool false, .slice none 0 0, .int .i64 0] 58)) [(w.heap.size + 1 + 1, 58, #[.bool false, .slice none 0 0, .int .i64 0]), (w.heap.size + 1, 30, #[.bool m, .slice B ys.length d]), (w.heap.size, 30, #[.bool n, .slice A xs.length c])] [(B, d, ys), (A, c, xs)] :=
    ((((((Mem.start w).addR ha).addR hb).new 30 #[.bool n, .slice A xs.length c]).newAt (by simp) 30 #[.bool m, .slice B ys.length d]).newAt (by simp) 58 #[.bool false, .slice none 0 0, .int .i64 0])
  clear ha hb hr
  obtain ⟨v1, v2, _, _⟩ := (M.k (i := 2) rfl).both
  obtain ⟨v3, v4, _, _⟩ := (M.k (i := 1) rfl).both
  go_enter Try.func28, Try.ntmps28
  go_wp2_with fail
  refine (smul_any _ _ A B c d _ _ _ (M.r (i := 1) rfl) (M.r (i := 0) rfl)).mono ?_
  rw [HR.out]
  rintro e w2 ⟨⟨A2, c2, rfl, h⟩, q⟩
  replace M := (M.below q).addR h
  have p2 := (M.k (i := 0) rfl).lt
  replace M := M.new 30 #[.bool r1, .slice A2 r2.length c2]
  clear q h v1 v2 v3 v4
  obtain ⟨v1, v2, _, _⟩ := (M.k (i := 0) rfl).both
  go_wp2_with ((with_reducible show wpList _ _ _ (Oper.mk none (Op.store _ _ _) _ _ _ _ :: _) _ _); refine wp_put (o := ⟨none, .store _ _ _, _, _, _, _⟩) _ _ (M.k (i := 1) rfl) rfl rfl rfl rfl info_term rfl rfl ?_; intro w4 b4 g4; replace M := M.rowAt (i := 1) rfl (by omega) (by simp <;> omega) rfl b4 g4; obtain ⟨f1, f2, f3⟩ := (M.k (i := 1) rfl).three)
  exact bodyPost_ret (v := .agg #[.bool r1, .slice A2 r2.length c2, .int .i64 r3]) (by simp [results, Try.results28, go_sem, f1, f2, f3]) rfl ⟨⟨A2, c2, rfl, M.r (i := 0) rfl⟩, M.bel⟩
set_option maxRecDepth 100000 in
theorem tplus_any {n m : Bool} {A B : Option Addr} {c d : Nat} {xs ys : List Nat} {w : World} {r : R3} (hr : saddR n xs m ys = r) (ha : Rd w A c xs) (hb : Rd w B d ys) :
    Calls Try.prog 29 #[.agg #[.bool n, .slice A xs.length c, .int .i64 0], .agg #[.bool m, .slice B ys.length d, .int .i64 0]] w fun e w' => RetT w w' e r := by
  obtain ⟨r1, r2, r3⟩ := r
  have HR := Lib.hid hr
  have M : Mem w (((w.alloc (.cells #[.bool n, .slice A xs.length c, .int .i64 0] 58)).alloc (.cells #[.bool m, .slice B ys.length d, .int .i64 0] 58)).alloc (.cells #[.bool false, .slice none 0 0, .int .i64 0] 58)) [(w.heap.size + 1 + 1, 58, #[.bool false, .slice none 0 0, .int .i64 0]), (w.heap.size + 1, 58, #[.bool m, .slice B ys.length d, .int .i64 0]), (w.heap.size, 58, #[.bool n, .slice A xs.length c, .int .i64 0])] [(B, d, ys), (A, c, xs)] :=
    ((((((Mem.start w).addR ha).addR hb).new 58 #[.bool n, .slice A xs.length c, .int .i64 0]).newAt (by simp) 58 #[.bool m, .slice B ys.length d, .int .i64 0]).newAt (by simp) 58 #[.bool false, .slice none 0 0, .int .i64 0])
  clear ha hb hr
  obtain ⟨v1, v2, v3⟩ := (M.k (i := 2) rfl).three
  obtain ⟨v4, v5, v6⟩ := (M.k (i := 1) rfl).three
  go_enter Try.func29, Try.ntmps29
  go_wp2_with fail
  refine (sadd_any _ _ A B c d _ _ _ (M.r (i := 1) rfl) (M.r (i := 0) rfl)).mono ?_
  rw [HR.out]
  rintro e w2 ⟨⟨A2, c2, rfl, h⟩, q⟩
  replace M := (M.below q).addR h
  have p2 := (M.k (i := 0) rfl).lt
  replace M := M.new 30 #[.bool r1, .slice A2 r2.length c2]
  clear q h v1 v2 v3 v4 v5 v6
  obtain ⟨v1, v2, _, _⟩ := (M.k (i := 0) rfl).both
  go_wp2_with ((with_reducible show wpList _ _ _ (Oper.mk none (Op.store _ _ _) _ _ _ _ :: _) _ _); refine wp_put (o := ⟨none, .store _ _ _, _, _, _, _⟩) _ _ (M.k (i := 1) rfl) rfl rfl rfl rfl info_term rfl rfl ?_; intro w4 b4 g4; replace M := M.rowAt (i := 1) rfl (by omega) (by simp <;> omega) rfl b4 g4; obtain ⟨f1, f2, f3⟩ := (M.k (i := 1) rfl).three)
  exact bodyPost_ret (v := .agg #[.bool r1, .slice A2 r2.length c2, .int .i64 r3]) (by simp [results, Try.results29, go_sem, f1, f2, f3]) rfl ⟨⟨A2, c2, rfl, M.r (i := 0) rfl⟩, M.bel⟩
set_option maxRecDepth 100000 in
theorem tover_any {n m : Bool} {A B : Option Addr} {c d : Nat} {xs ys : List Nat} {w : World} {r : R5} (hr : qmakeR n xs m ys = r) (ha : Rd w A c xs) (hb : Rd w B d ys) :
    Calls Try.prog 30 #[.agg #[.bool n, .slice A xs.length c, .int .i64 0], .agg #[.bool m, .slice B ys.length d, .int .i64 0]] w fun e w' => RetQE w w' e r := by
  obtain ⟨r1, r2, r3, r4, r5⟩ := r
  have HR := Lib.hid hr
  have M : Mem w (((w.alloc (.cells #[.bool n, .slice A xs.length c, .int .i64 0] 58)).alloc (.cells #[.bool m, .slice B ys.length d, .int .i64 0] 58)).alloc (.cells #[.bool false, .slice none 0 0, .bool false, .slice none 0 0] 32)) [(w.heap.size + 1 + 1, 32, #[.bool false, .slice none 0 0, .bool false, .slice none 0 0]), (w.heap.size + 1, 58, #[.bool m, .slice B ys.length d, .int .i64 0]), (w.heap.size, 58, #[.bool n, .slice A xs.length c, .int .i64 0])] [(B, d, ys), (A, c, xs)] :=
    ((((((Mem.start w).addR ha).addR hb).new 58 #[.bool n, .slice A xs.length c, .int .i64 0]).newAt (by simp) 58 #[.bool m, .slice B ys.length d, .int .i64 0]).newAt (by simp) 32 #[.bool false, .slice none 0 0, .bool false, .slice none 0 0])
  clear ha hb hr
  obtain ⟨v1, v2, v3⟩ := (M.k (i := 2) rfl).three
  obtain ⟨v4, v5, v6⟩ := (M.k (i := 1) rfl).three
  go_enter Try.func30, Try.ntmps30
  go_wp2_with fail
  refine (qmake_any (M.r (i := 1) rfl) (M.r (i := 0) rfl)).mono ?_
  rw [HR.out]
  rintro e w2 ⟨⟨A2, c2, B2, d2, rfl, h, k⟩, q⟩
  replace M := ((M.below q).addR k).addR h
  clear q h k v1 v2 v3 v4 v5 v6
  go_wp2_with ((with_reducible show wpList _ _ _ (Oper.mk none (Op.store _ _ _) _ _ _ _ :: _) _ _); refine wp_put (o := ⟨none, .store _ _ _, _, _, _, _⟩) _ _ (M.k (i := 0) rfl) rfl rfl rfl rfl info_rat rfl rfl ?_; intro w4 b4 g4; replace M := M.rowAt (i := 0) rfl (by omega) (by simp <;> omega) rfl b4 g4; obtain ⟨f1, f2, f3, f4⟩ := (M.k (i := 0) rfl).four)
  exact bodyPost_ret (v := .tuple #[rv r1 A2 r2.length c2 r3 B2 r4.length d2, .int .i64 r5]) (by simp [results, Try.results30, go_sem, f1, f2, f3, f4]) rfl ⟨⟨A2, c2, B2, d2, rfl, M.r (i := 0) rfl, M.r (i := 1) rfl⟩, M.bel⟩
set_option maxRecDepth 100000 in
theorem qboth_any {n m n' m' : Bool} {A B A' B' : Option Addr} {c d c' d' : Nat} {xs ys xs' ys' : List Nat} {w : World} (ha : Rd w A c xs) (hb : Rd w B d ys) (ha' : Rd w A' c' xs') (hb' : Rd w B' d' ys') :
    Calls Try.prog 27 #[rv n A xs.length c m B ys.length d, rv n' A' xs'.length c' m' B' ys'.length d'] w fun e w' => e = .returned (.bool (qright n xs m ys && qright n' xs' m' ys')) ∧ Below w.heap.size w w' := by
  have M : Mem w ((w.alloc (.cells #[.bool n, .slice A xs.length c, .bool m, .slice B ys.length d] 32)).alloc (.cells #[.bool n', .slice A' xs'.length c', .bool m', .slice B' ys'.length d'] 32)) [(w.heap.size + 1, 32, #[.bool n', .slice A' xs'.length c', .bool m', .slice B' ys'.length d']), (w.heap.size, 32, #[.bool n, .slice A xs.length c, .bool m, .slice B ys.length d])] [(B', d', ys'), (A', c', xs'), (B, d, ys), (A, c, xs)] :=
    (((((((Mem.start w).addR ha).addR hb).addR ha').addR hb').new 32 #[.bool n, .slice A xs.length c, .bool m, .slice B ys.length d]).newAt (by simp) 32 #[.bool n', .slice A' xs'.length c', .bool m', .slice B' ys'.length d'])
  clear ha hb ha' hb'
  obtain ⟨v1, v2, v3, v4⟩ := (M.k (i := 1) rfl).four
  rcases Bool.eq_false_or_eq_true (qright n xs m ys) with h | h
  all_goals
    have H := Lib.hid h
    rw [h]
    clear h
    go_enter Try.func27, Try.ntmps27
    go_wp2_with fail
    refine (qright_any (M.r (i := 3) rfl) (M.r (i := 2) rfl)).mono ?_
    rw [H.out]
    rintro e w2 ⟨rfl, q⟩
    replace M := M.below q
    clear q v1 v2 v3 v4
    obtain ⟨v1, v2, v3, v4⟩ := (M.k (i := 0) rfl).four
  · go_wp2_with fail
    refine (qright_any (M.r (i := 1) rfl) (M.r (i := 0) rfl)).mono ?_
    rintro e w3 ⟨rfl, q⟩
    replace M := M.below q
    go_wp2
    go_ret
    exact ⟨by simp, M.bel⟩
  · go_wp2
    go_ret
    exact ⟨by simp, M.bel⟩
set_option maxRecDepth 100000 in
set_option maxHeartbeats 1000000 in
theorem qadd_any {n m n' m' : Bool} {A B A' B' : Option Addr} {c d c' d' : Nat} {xs ys xs' ys' : List Nat} {w : World} (ha : Rd w A c xs) (hb : Rd w B d ys) (ha' : Rd w A' c' xs') (hb' : Rd w B' d' ys') :
    Calls Try.prog 9 #[rv n A xs.length c m B ys.length d, rv n' A' xs'.length c' m' B' ys'.length d'] w fun e w' => RetQE w w' e (qaddR n xs m ys n' xs' m' ys') := by
  have M : Mem w (((w.alloc (.cells #[.bool n, .slice A xs.length c, .bool m, .slice B ys.length d] 32)).alloc (.cells #[.bool n', .slice A' xs'.length c', .bool m', .slice B' ys'.length d'] 32)).alloc (.cells #[.bool false, .slice none 0 0, .bool false, .slice none 0 0] 32)) [(w.heap.size + 1 + 1, 32, #[.bool false, .slice none 0 0, .bool false, .slice none 0 0]), (w.heap.size + 1, 32, #[.bool n', .slice A' xs'.length c', .bool m', .slice B' ys'.length d']), (w.heap.size, 32, #[.bool n, .slice A xs.length c, .bool m, .slice B ys.length d])] [(B', d', ys'), (A', c', xs'), (B, d, ys), (A, c, xs)] :=
    ((((((((Mem.start w).addR ha).addR hb).addR ha').addR hb').new 32 #[.bool n, .slice A xs.length c, .bool m, .slice B ys.length d]).newAt (by simp) 32 #[.bool n', .slice A' xs'.length c', .bool m', .slice B' ys'.length d']).newAt (by simp) 32 #[.bool false, .slice none 0 0, .bool false, .slice none 0 0])
  have ox := ha.ok
  have oy := hb.ok
  have ox' := ha'.ok
  have oy' := hb'.ok
  clear ha hb ha' hb'
  unfold qaddR
  rcases Bool.eq_false_or_eq_true (qright n xs m ys && qright n' xs' m' ys') with h | h
  case inr =>
    rw [h]
    have HB := Lib.hid h
    clear h ox oy ox' oy'
    obtain ⟨v1, v2, v3, v4⟩ := (M.k (i := 2) rfl).four
    obtain ⟨v5, v6, v7, v8⟩ := (M.k (i := 1) rfl).four
    go_enter Try.func9, Try.ntmps9
    go_wp2_with fail
    refine (qboth_any (M.r (i := 3) rfl) (M.r (i := 2) rfl) (M.r (i := 1) rfl) (M.r (i := 0) rfl)).mono ?_
    rw [HB.out]
    rintro e z1 ⟨rfl, q⟩
    replace M := M.below q
    clear q v1 v2 v3 v4 v5 v6 v7 v8
    go_wp2_with ((with_reducible show wpList _ _ _ (Oper.mk none (Op.store _ _ _) _ _ _ _ :: _) _ _); refine wp_put (o := ⟨none, .store _ _ _, _, _, _, _⟩) _ _ (M.k (i := 0) rfl) rfl rfl rfl rfl info_rat rfl rfl ?_; intro w4 b4 g4; replace M := M.rowAt (i := 0) rfl (by omega) (by simp <;> omega) rfl b4 g4; obtain ⟨f1, f2, f3, f4⟩ := (M.k (i := 0) rfl).four)
    exact bodyPost_ret (v := .tuple #[rv false none 0 0 false none 0 0, .int .i64 2]) (by simp [results, Try.results9, go_sem, f1, f2, f3, f4]) rfl ⟨⟨none, 0, none, 0, rfl, Rd.nil, Rd.nil⟩, M.bel⟩
  rw [h, if_pos rfl]
  have HB := Lib.hid h
  rw [Bool.and_eq_true] at h
  obtain ⟨an, ad, bn, bd, sn, sd, dn, dd, e1, e2, e3, e4, e5, -⟩ := add_facts ox oy ox' oy' h.1 h.2
  generalize fitQ (toQ n xs m ys + toQ n' xs' m' ys') = r at *
  obtain ⟨r1, r2, r3, r4, r5⟩ := r
  have H1 := Lib.hid e1
  have H2 := Lib.hid e2
  have H3 := Lib.hid e3
  have H4 := Lib.hid e4
  have H5 := Lib.hid e5
  clear h ox oy ox' oy' e1 e2 e3 e4 e5
  obtain ⟨v1, v2, v3, v4⟩ := (M.k (i := 2) rfl).four
  obtain ⟨v5, v6, v7, v8⟩ := (M.k (i := 1) rfl).four
  go_enter Try.func9, Try.ntmps9
  go_wp2_with fail
  refine (qboth_any (M.r (i := 3) rfl) (M.r (i := 2) rfl) (M.r (i := 1) rfl) (M.r (i := 0) rfl)).mono ?_
  rw [HB.out]
  rintro e z1 ⟨rfl, q⟩
  replace M := M.below q
  clear q v1 v2 v3 v4 v5 v6 v7 v8
  go_upto_region 3 with fail
  refine region_st (n := 21) (frame := ?frame1) (fun jK => [.val (.fix (.pointer (some ⟨w.heap.size, 0, none⟩))), .val (.fix (.agg #[.bool n, .slice A xs.length c])), .val (.fix (.pointer (some ⟨w.heap.size + 1, 2, none⟩))), .val (.fix (.agg #[.bool m', .slice B' ys'.length d'])), .val (.te (an, ad, 0)), .val (.fix (.pointer (some ⟨w.heap.size + 1, 0, none⟩))), .val (.fix (.agg #[.bool n', .slice A' xs'.length c'])), .val (.fix (.pointer (some ⟨w.heap.size, 2, none⟩))), .val (.fix (.agg #[.bool m, .slice B ys.length d])), .val (.te (bn, bd, 0)), .val (.te (sn, sd, 0)), .val (.fix (.pointer (some ⟨w.heap.size, 2, none⟩))), .val (.fix (.agg #[.bool m, .slice B ys.length d])), .val (.fix (.pointer (some ⟨w.heap.size + 1, 2, none⟩))), .val (.fix (.agg #[.bool m', .slice B' ys'.length d'])), .val (.te (dn, dd, 0)), .val (.re (r1, r2, r3, r4, r5)), .val (.rat (r1) (r2) (r3) (r4)), .val (.fix (.int .i64 r5)), .none, .val (.fix (.int .i64 r5))].getD jK .none) [⟨w.heap.size + 1 + 1, 19, 32, #[.bool false, .slice none 0 0, .bool false, .slice none 0 0], .rat r1 r2 r3 r4⟩] (by kernel_rfl) (by kernel_rfl) (by kernel_rfl) rfl (Mem.tailK M) (own_of M (by omega) (by simp <;> omega) rfl) own_one ?_ ?_ ?_
  case refine_1 =>
    intro s
    simp only [fr, Act.put, List.append_eq, List.cons_append, List.nil_append, List.setIfInBounds_toArray, List.set_cons_zero, List.set_cons_succ, Nat.reduceAdd]
    rfl
  case refine_2 =>
    refine Steps.cons 0 (j := 1) rfl ?_ (Steps.cons 1 (j := 2) rfl ?_ (Steps.cons 2 (j := 3) rfl ?_ (Steps.cons 3 (j := 4) rfl ?_ (Steps.cons 4 (j := 5) rfl ?_ (Steps.cons 5 (j := 6) rfl ?_ (Steps.cons 6 (j := 7) rfl ?_ (Steps.cons 7 (j := 8) rfl ?_ (Steps.cons 8 (j := 9) rfl ?_ (Steps.cons 9 (j := 10) rfl ?_ (Steps.cons 10 (j := 11) rfl ?_ (Steps.cons 11 (j := 12) rfl ?_ (Steps.cons 12 (j := 13) rfl ?_ (Steps.cons 13 (j := 14) rfl ?_ (Steps.cons 14 (j := 15) rfl ?_ (Steps.cons 15 (j := 16) rfl ?_ (Steps.cons 16 (j := 17) rfl ?_ (Steps.cons 17 (j := 18) rfl ?_ (Steps.cons 18 (j := 19) rfl ?_ (Steps.cons 19 (j := 20) rfl ?_ (Steps.cons 20 (j := 21) rfl ?_ Steps.nil))))))))))))))))))))
    · intro L s w9 hN hU hi hS K hK
      dsimp only at hK ⊢
      simp only [Act.put, List.setIfInBounds_toArray, List.set_cons_zero, List.set_cons_succ] at hK
      go_simp
      exact hK.out _ _ (hS.val rfl rfl (Below.refl _ _) rfl)
    · intro L s w9 hN hU hi hS K hK
      dsimp only at hK ⊢
      simp only [Act.put, List.setIfInBounds_toArray, List.set_cons_zero, List.set_cons_succ] at hK
      have e0 : s 0 = .pointer (some ⟨w.heap.size, 0, none⟩) := hS.val_at 0 rfl (by decide) (hN.out 0 rfl)
      simp only [e0] at hK ⊢
      obtain ⟨u1, u2, u3, u4⟩ := (hS.mem.k (i := 1) rfl).four
      go_simp
      exact hK.out _ _ (hS.val rfl rfl (Below.refl _ _) rfl)
    · intro L s w9 hN hU hi hS K hK
      dsimp only at hK ⊢
      simp only [Act.put, List.setIfInBounds_toArray, List.set_cons_zero, List.set_cons_succ] at hK
      go_simp
      exact hK.out _ _ (hS.val rfl rfl (Below.refl _ _) rfl)
    · intro L s w9 hN hU hi hS K hK
      dsimp only at hK ⊢
      simp only [Act.put, List.setIfInBounds_toArray, List.set_cons_zero, List.set_cons_succ] at hK
      have e2 : s 2 = .pointer (some ⟨w.heap.size + 1, 2, none⟩) := hS.val_at 2 rfl (by decide) (hN.out 2 rfl)
      simp only [e2] at hK ⊢
      obtain ⟨u1, u2, u3, u4⟩ := (hS.mem.k (i := 0) rfl).four
      go_simp
      exact hK.out _ _ (hS.val rfl rfl (Below.refl _ _) rfl)
    · intro L s w9 hN hU hi hS K hK
      dsimp only at hK ⊢
      simp only [Act.put, List.setIfInBounds_toArray, List.set_cons_zero, List.set_cons_succ] at hK
      have e1 : s 1 = .agg #[.bool n, .slice A xs.length c] := hS.val_at 1 rfl (by decide) (hN.out 1 rfl)
      simp only [e1] at hK ⊢
      have e3 : s 3 = .agg #[.bool m', .slice B' ys'.length d'] := hS.val_at 3 rfl (by decide) (hN.out 3 rfl)
      simp only [e3] at hK ⊢
      go_simp
      go_at_call 28
      refine (times_any H1.out (hS.mem.r (i := 3) rfl) (hS.mem.r (i := 0) rfl)).mono ?_
      rintro e9 w10 ⟨⟨A0, c0, rfl, h0⟩, q⟩
      exact hK.out _ _ (hS.val rfl rfl q ⟨A0, c0, rfl, h0⟩)
    · intro L s w9 hN hU hi hS K hK
      dsimp only at hK ⊢
      simp only [Act.put, List.setIfInBounds_toArray, List.set_cons_zero, List.set_cons_succ] at hK
      go_simp
      exact hK.out _ _ (hS.val rfl rfl (Below.refl _ _) rfl)
    · intro L s w9 hN hU hi hS K hK
      dsimp only at hK ⊢
      simp only [Act.put, List.setIfInBounds_toArray, List.set_cons_zero, List.set_cons_succ] at hK
      have e5 : s 5 = .pointer (some ⟨w.heap.size + 1, 0, none⟩) := hS.val_at 5 rfl (by decide) (hN.out 5 rfl)
      simp only [e5] at hK ⊢
      obtain ⟨u1, u2, u3, u4⟩ := (hS.mem.k (i := 0) rfl).four
      go_simp
      exact hK.out _ _ (hS.val rfl rfl (Below.refl _ _) rfl)
    · intro L s w9 hN hU hi hS K hK
      dsimp only at hK ⊢
      simp only [Act.put, List.setIfInBounds_toArray, List.set_cons_zero, List.set_cons_succ] at hK
      go_simp
      exact hK.out _ _ (hS.val rfl rfl (Below.refl _ _) rfl)
    · intro L s w9 hN hU hi hS K hK
      dsimp only at hK ⊢
      simp only [Act.put, List.setIfInBounds_toArray, List.set_cons_zero, List.set_cons_succ] at hK
      have e7 : s 7 = .pointer (some ⟨w.heap.size, 2, none⟩) := hS.val_at 7 rfl (by decide) (hN.out 7 rfl)
      simp only [e7] at hK ⊢
      obtain ⟨u1, u2, u3, u4⟩ := (hS.mem.k (i := 1) rfl).four
      go_simp
      exact hK.out _ _ (hS.val rfl rfl (Below.refl _ _) rfl)
    · intro L s w9 hN hU hi hS K hK
      dsimp only at hK ⊢
      simp only [Act.put, List.setIfInBounds_toArray, List.set_cons_zero, List.set_cons_succ] at hK
      have e6 : s 6 = .agg #[.bool n', .slice A' xs'.length c'] := hS.val_at 6 rfl (by decide) (hN.out 6 rfl)
      simp only [e6] at hK ⊢
      have e8 : s 8 = .agg #[.bool m, .slice B ys.length d] := hS.val_at 8 rfl (by decide) (hN.out 8 rfl)
      simp only [e8] at hK ⊢
      go_simp
      go_at_call 28
      refine (times_any H2.out (hS.mem.r (i := 1) rfl) (hS.mem.r (i := 2) rfl)).mono ?_
      rintro e9 w10 ⟨⟨A0, c0, rfl, h0⟩, q⟩
      exact hK.out _ _ (hS.val rfl rfl q ⟨A0, c0, rfl, h0⟩)
    · intro L s w9 hN hU hi hS K hK
      dsimp only at hK ⊢
      simp only [Act.put, List.setIfInBounds_toArray, List.set_cons_zero, List.set_cons_succ] at hK
      obtain ⟨A4, c4, e4, h4⟩ := hS.val_at 4 rfl (by decide) (hN.out 4 rfl)
      simp only [e4] at hK ⊢
      obtain ⟨A9, c9, e9, h9⟩ := hS.val_at 9 rfl (by decide) (hN.out 9 rfl)
      simp only [e9] at hK ⊢
      go_simp
      go_at_call 29
      refine (tplus_any H3.out h4 h9).mono ?_
      rintro e9 w10 ⟨⟨A0, c0, rfl, h0⟩, q⟩
      exact hK.out _ _ (hS.val rfl rfl q ⟨A0, c0, rfl, h0⟩)
    · intro L s w9 hN hU hi hS K hK
      dsimp only at hK ⊢
      simp only [Act.put, List.setIfInBounds_toArray, List.set_cons_zero, List.set_cons_succ] at hK
      go_simp
      exact hK.out _ _ (hS.val rfl rfl (Below.refl _ _) rfl)
    · intro L s w9 hN hU hi hS K hK
      dsimp only at hK ⊢
      simp only [Act.put, List.setIfInBounds_toArray, List.set_cons_zero, List.set_cons_succ] at hK
      have e11 : s 11 = .pointer (some ⟨w.heap.size, 2, none⟩) := hS.val_at 11 rfl (by decide) (hN.out 11 rfl)
      simp only [e11] at hK ⊢
      obtain ⟨u1, u2, u3, u4⟩ := (hS.mem.k (i := 1) rfl).four
      go_simp
      exact hK.out _ _ (hS.val rfl rfl (Below.refl _ _) rfl)
    · intro L s w9 hN hU hi hS K hK
      dsimp only at hK ⊢
      simp only [Act.put, List.setIfInBounds_toArray, List.set_cons_zero, List.set_cons_succ] at hK
      go_simp
      exact hK.out _ _ (hS.val rfl rfl (Below.refl _ _) rfl)
    · intro L s w9 hN hU hi hS K hK
      dsimp only at hK ⊢
      simp only [Act.put, List.setIfInBounds_toArray, List.set_cons_zero, List.set_cons_succ] at hK
      have e13 : s 13 = .pointer (some ⟨w.heap.size + 1, 2, none⟩) := hS.val_at 13 rfl (by decide) (hN.out 13 rfl)
      simp only [e13] at hK ⊢
      obtain ⟨u1, u2, u3, u4⟩ := (hS.mem.k (i := 0) rfl).four
      go_simp
      exact hK.out _ _ (hS.val rfl rfl (Below.refl _ _) rfl)
    · intro L s w9 hN hU hi hS K hK
      dsimp only at hK ⊢
      simp only [Act.put, List.setIfInBounds_toArray, List.set_cons_zero, List.set_cons_succ] at hK
      have e12 : s 12 = .agg #[.bool m, .slice B ys.length d] := hS.val_at 12 rfl (by decide) (hN.out 12 rfl)
      simp only [e12] at hK ⊢
      have e14 : s 14 = .agg #[.bool m', .slice B' ys'.length d'] := hS.val_at 14 rfl (by decide) (hN.out 14 rfl)
      simp only [e14] at hK ⊢
      go_simp
      go_at_call 28
      refine (times_any H4.out (hS.mem.r (i := 2) rfl) (hS.mem.r (i := 0) rfl)).mono ?_
      rintro e9 w10 ⟨⟨A0, c0, rfl, h0⟩, q⟩
      exact hK.out _ _ (hS.val rfl rfl q ⟨A0, c0, rfl, h0⟩)
    · intro L s w9 hN hU hi hS K hK
      dsimp only at hK ⊢
      simp only [Act.put, List.setIfInBounds_toArray, List.set_cons_zero, List.set_cons_succ] at hK
      obtain ⟨A10, c10, e10, h10⟩ := hS.val_at 10 rfl (by decide) (hN.out 10 rfl)
      simp only [e10] at hK ⊢
      obtain ⟨A15, c15, e15, h15⟩ := hS.val_at 15 rfl (by decide) (hN.out 15 rfl)
      simp only [e15] at hK ⊢
      go_simp
      go_at_call 30
      refine (tover_any H5.out h10 h15).mono ?_
      rintro e9 w10 ⟨⟨A0, c0, B0, d0, rfl, h0, k0⟩, q⟩
      exact hK.out _ _ (hS.val rfl rfl q ⟨A0, c0, B0, d0, rfl, h0, k0⟩)
    · intro L s w9 hN hU hi hS K hK
      dsimp only at hK ⊢
      simp only [Act.put, List.setIfInBounds_toArray, List.set_cons_zero, List.set_cons_succ] at hK
      obtain ⟨A16, c16, B16, d16, e16, h16, k16⟩ := hS.val_at 16 rfl (by decide) (hN.out 16 rfl)
      simp only [e16] at hK ⊢
      go_simp
      exact hK.out _ _ (hS.val rfl rfl (Below.refl _ _) ⟨A16, c16, B16, d16, rfl, h16, k16⟩)
    · intro L s w9 hN hU hi hS K hK
      dsimp only at hK ⊢
      simp only [Act.put, List.setIfInBounds_toArray, List.set_cons_zero, List.set_cons_succ] at hK
      obtain ⟨A16, c16, B16, d16, e16, h16, k16⟩ := hS.val_at 16 rfl (by decide) (hN.out 16 rfl)
      simp only [e16] at hK ⊢
      go_simp
      exact hK.out _ _ (hS.val rfl rfl (Below.refl _ _) rfl)
    · intro L s w9 hN hU hi hS K hK
      dsimp only at hK ⊢
      simp only [Act.put, List.setIfInBounds_toArray, List.set_cons_zero, List.set_cons_succ] at hK
      obtain ⟨A17, c17, B17, d17, e17, h17, k17⟩ := hS.val_at 17 rfl (by decide) (hN.out 17 rfl)
      simp only [e17] at hK ⊢
      obtain ⟨_, _, _, cs9, b9, n9, z9, _⟩ := hS.own_at 0 rfl
      obtain rfl := z9 hi.out
      refine ite_of rfl ?_
      refine wp_store_row _ _ _ rfl (w.heap.size + 1 + 1) _ rfl rfl _ _ b9 info_rat rfl (by rw [← Array.all_toList]; rfl) ?_
      simp only [Act.put]
      exact hK.out undef _ (hS.fillOwn (u := undef) rfl (k := 0) rfl rfl rfl (setRow_grown _ _ _) (b9.row _) rfl ⟨A17, c17, B17, d17, rfl, h17, k17⟩)
    · intro L s w9 hN hU hi hS K hK
      dsimp only at hK ⊢
      simp only [Act.put, List.setIfInBounds_toArray, List.set_cons_zero, List.set_cons_succ] at hK
      have e18 : s 18 = .int .i64 r5 := hS.val_at 18 rfl (by decide) (hN.out 18 rfl)
      simp only [e18] at hK ⊢
      go_simp
      exact hK.out _ _ (hS.val rfl rfl (Below.refl _ _) rfl)
  intro L s w9 hall hS
  obtain ⟨_, _, _, ocs, ob, on, _, oz⟩ := hS.own_at 0 rfl
  obtain ⟨oA, oc, oB, od, rfl, oh, ok⟩ := oz (hall 19 (by decide))
  have eL : s 20 = .int .i64 r5 := hS.val_at 20 rfl (by decide) (hall 20 (by decide))
  obtain ⟨f1, f2, f3, f4⟩ := ob.four
  go_wp2
  exact bodyPost_ret (v := .tuple #[rv r1 oA r2.length oc r3 oB r4.length od, .int .i64 r5]) (by simp [results, Try.results9, go_sem, f1, f2, f3, f4, eL]) rfl ⟨⟨oA, oc, oB, od, rfl, oh, ok⟩, hS.mem.bel⟩
set_option maxRecDepth 100000 in
set_option maxHeartbeats 1000000 in
theorem qmul_any {n m n' m' : Bool} {A B A' B' : Option Addr} {c d c' d' : Nat} {xs ys xs' ys' : List Nat} {w : World} (ha : Rd w A c xs) (hb : Rd w B d ys) (ha' : Rd w A' c' xs') (hb' : Rd w B' d' ys') :
    Calls Try.prog 11 #[rv n A xs.length c m B ys.length d, rv n' A' xs'.length c' m' B' ys'.length d'] w fun e w' => RetQE w w' e (qmulR n xs m ys n' xs' m' ys') := by
  have M : Mem w (((w.alloc (.cells #[.bool n, .slice A xs.length c, .bool m, .slice B ys.length d] 32)).alloc (.cells #[.bool n', .slice A' xs'.length c', .bool m', .slice B' ys'.length d'] 32)).alloc (.cells #[.bool false, .slice none 0 0, .bool false, .slice none 0 0] 32)) [(w.heap.size + 1 + 1, 32, #[.bool false, .slice none 0 0, .bool false, .slice none 0 0]), (w.heap.size + 1, 32, #[.bool n', .slice A' xs'.length c', .bool m', .slice B' ys'.length d']), (w.heap.size, 32, #[.bool n, .slice A xs.length c, .bool m, .slice B ys.length d])] [(B', d', ys'), (A', c', xs'), (B, d, ys), (A, c, xs)] :=
    ((((((((Mem.start w).addR ha).addR hb).addR ha').addR hb').new 32 #[.bool n, .slice A xs.length c, .bool m, .slice B ys.length d]).newAt (by simp) 32 #[.bool n', .slice A' xs'.length c', .bool m', .slice B' ys'.length d']).newAt (by simp) 32 #[.bool false, .slice none 0 0, .bool false, .slice none 0 0])
  have ox := ha.ok
  have oy := hb.ok
  have ox' := ha'.ok
  have oy' := hb'.ok
  clear ha hb ha' hb'
  unfold qmulR
  rcases Bool.eq_false_or_eq_true (qright n xs m ys && qright n' xs' m' ys') with h | h
  case inr =>
    rw [h]
    have HB := Lib.hid h
    clear h ox oy ox' oy'
    obtain ⟨v1, v2, v3, v4⟩ := (M.k (i := 2) rfl).four
    obtain ⟨v5, v6, v7, v8⟩ := (M.k (i := 1) rfl).four
    go_enter Try.func11, Try.ntmps11
    go_wp2_with fail
    refine (qboth_any (M.r (i := 3) rfl) (M.r (i := 2) rfl) (M.r (i := 1) rfl) (M.r (i := 0) rfl)).mono ?_
    rw [HB.out]
    rintro e z1 ⟨rfl, q⟩
    replace M := M.below q
    clear q v1 v2 v3 v4 v5 v6 v7 v8
    go_wp2_with ((with_reducible show wpList _ _ _ (Oper.mk none (Op.store _ _ _) _ _ _ _ :: _) _ _); refine wp_put (o := ⟨none, .store _ _ _, _, _, _, _⟩) _ _ (M.k (i := 0) rfl) rfl rfl rfl rfl info_rat rfl rfl ?_; intro w4 b4 g4; replace M := M.rowAt (i := 0) rfl (by omega) (by simp <;> omega) rfl b4 g4; obtain ⟨f1, f2, f3, f4⟩ := (M.k (i := 0) rfl).four)
    exact bodyPost_ret (v := .tuple #[rv false none 0 0 false none 0 0, .int .i64 2]) (by simp [results, Try.results11, go_sem, f1, f2, f3, f4]) rfl ⟨⟨none, 0, none, 0, rfl, Rd.nil, Rd.nil⟩, M.bel⟩
  rw [h, if_pos rfl]
  have HB := Lib.hid h
  rw [Bool.and_eq_true] at h
  obtain ⟨an, ad, dn, dd, e1, e2, e3, -⟩ := mul_facts ox oy ox' oy' h.1 h.2
  generalize hz : fitQ _ = r at *
  clear hz
  obtain ⟨r1, r2, r3, r4, r5⟩ := r
  have H1 := Lib.hid e1
  have H2 := Lib.hid e2
  have H3 := Lib.hid e3
  clear h ox oy ox' oy' e1 e2 e3
  obtain ⟨v1, v2, v3, v4⟩ := (M.k (i := 2) rfl).four
  obtain ⟨v5, v6, v7, v8⟩ := (M.k (i := 1) rfl).four
  go_enter Try.func11, Try.ntmps11
  go_wp2_with fail
  refine (qboth_any (M.r (i := 3) rfl) (M.r (i := 2) rfl) (M.r (i := 1) rfl) (M.r (i := 0) rfl)).mono ?_
  rw [HB.out]
  rintro e z1 ⟨rfl, q⟩
  replace M := M.below q
  clear q v1 v2 v3 v4 v5 v6 v7 v8
  go_upto_region 3 with fail
  refine region_st (n := 15) (frame := ?frame2) (fun jK => [.val (.fix (.pointer (some ⟨w.heap.size, 0, none⟩))), .val (.fix (.agg #[.bool n, .slice A xs.length c])), .val (.fix (.pointer (some ⟨w.heap.size + 1, 0, none⟩))), .val (.fix (.agg #[.bool n', .slice A' xs'.length c'])), .val (.te (an, ad, 0)), .val (.fix (.pointer (some ⟨w.heap.size, 2, none⟩))), .val (.fix (.agg #[.bool m, .slice B ys.length d])), .val (.fix (.pointer (some ⟨w.heap.size + 1, 2, none⟩))), .val (.fix (.agg #[.bool m', .slice B' ys'.length d'])), .val (.te (dn, dd, 0)), .val (.re (r1, r2, r3, r4, r5)), .val (.rat (r1) (r2) (r3) (r4)), .val (.fix (.int .i64 r5)), .none, .val (.fix (.int .i64 r5))].getD jK .none) [⟨w.heap.size + 1 + 1, 13, 32, #[.bool false, .slice none 0 0, .bool false, .slice none 0 0], .rat r1 r2 r3 r4⟩] (by kernel_rfl) (by kernel_rfl) (by kernel_rfl) rfl (Mem.tailK M) (own_of M (by omega) (by simp <;> omega) rfl) own_one ?_ ?_ ?_
  case refine_1 =>
    intro s
    simp only [fr, Act.put, List.append_eq, List.cons_append, List.nil_append, List.setIfInBounds_toArray, List.set_cons_zero, List.set_cons_succ, Nat.reduceAdd]
    rfl
  case refine_2 =>
    refine Steps.cons 0 (j := 1) rfl ?_ (Steps.cons 1 (j := 2) rfl ?_ (Steps.cons 2 (j := 3) rfl ?_ (Steps.cons 3 (j := 4) rfl ?_ (Steps.cons 4 (j := 5) rfl ?_ (Steps.cons 5 (j := 6) rfl ?_ (Steps.cons 6 (j := 7) rfl ?_ (Steps.cons 7 (j := 8) rfl ?_ (Steps.cons 8 (j := 9) rfl ?_ (Steps.cons 9 (j := 10) rfl ?_ (Steps.cons 10 (j := 11) rfl ?_ (Steps.cons 11 (j := 12) rfl ?_ (Steps.cons 12 (j := 13) rfl ?_ (Steps.cons 13 (j := 14) rfl ?_ (Steps.cons 14 (j := 15) rfl ?_ Steps.nil))))))))))))))
    · intro L s w9 hN hU hi hS K hK
      dsimp only at hK ⊢
      simp only [Act.put, List.setIfInBounds_toArray, List.set_cons_zero, List.set_cons_succ] at hK
      go_simp
      exact hK.out _ _ (hS.val rfl rfl (Below.refl _ _) rfl)
    · intro L s w9 hN hU hi hS K hK
      dsimp only at hK ⊢
      simp only [Act.put, List.setIfInBounds_toArray, List.set_cons_zero, List.set_cons_succ] at hK
      have e0 : s 0 = .pointer (some ⟨w.heap.size, 0, none⟩) := hS.val_at 0 rfl (by decide) (hN.out 0 rfl)
      simp only [e0] at hK ⊢
      obtain ⟨u1, u2, u3, u4⟩ := (hS.mem.k (i := 1) rfl).four
      go_simp
      exact hK.out _ _ (hS.val rfl rfl (Below.refl _ _) rfl)
    · intro L s w9 hN hU hi hS K hK
      dsimp only at hK ⊢
      simp only [Act.put, List.setIfInBounds_toArray, List.set_cons_zero, List.set_cons_succ] at hK
      go_simp
      exact hK.out _ _ (hS.val rfl rfl (Below.refl _ _) rfl)
    · intro L s w9 hN hU hi hS K hK
      dsimp only at hK ⊢
      simp only [Act.put, List.setIfInBounds_toArray, List.set_cons_zero, List.set_cons_succ] at hK
      have e2 : s 2 = .pointer (some ⟨w.heap.size + 1, 0, none⟩) := hS.val_at 2 rfl (by decide) (hN.out 2 rfl)
      simp only [e2] at hK ⊢
      obtain ⟨u1, u2, u3, u4⟩ := (hS.mem.k (i := 0) rfl).four
      go_simp
      exact hK.out _ _ (hS.val rfl rfl (Below.refl _ _) rfl)
    · intro L s w9 hN hU hi hS K hK
      dsimp only at hK ⊢
      simp only [Act.put, List.setIfInBounds_toArray, List.set_cons_zero, List.set_cons_succ] at hK
      have e1 : s 1 = .agg #[.bool n, .slice A xs.length c] := hS.val_at 1 rfl (by decide) (hN.out 1 rfl)
      simp only [e1] at hK ⊢
      have e3 : s 3 = .agg #[.bool n', .slice A' xs'.length c'] := hS.val_at 3 rfl (by decide) (hN.out 3 rfl)
      simp only [e3] at hK ⊢
      go_simp
      go_at_call 28
      refine (times_any H1.out (hS.mem.r (i := 3) rfl) (hS.mem.r (i := 1) rfl)).mono ?_
      rintro e9 w10 ⟨⟨A0, c0, rfl, h0⟩, q⟩
      exact hK.out _ _ (hS.val rfl rfl q ⟨A0, c0, rfl, h0⟩)
    · intro L s w9 hN hU hi hS K hK
      dsimp only at hK ⊢
      simp only [Act.put, List.setIfInBounds_toArray, List.set_cons_zero, List.set_cons_succ] at hK
      go_simp
      exact hK.out _ _ (hS.val rfl rfl (Below.refl _ _) rfl)
    · intro L s w9 hN hU hi hS K hK
      dsimp only at hK ⊢
      simp only [Act.put, List.setIfInBounds_toArray, List.set_cons_zero, List.set_cons_succ] at hK
      have e5 : s 5 = .pointer (some ⟨w.heap.size, 2, none⟩) := hS.val_at 5 rfl (by decide) (hN.out 5 rfl)
      simp only [e5] at hK ⊢
      obtain ⟨u1, u2, u3, u4⟩ := (hS.mem.k (i := 1) rfl).four
      go_simp
      exact hK.out _ _ (hS.val rfl rfl (Below.refl _ _) rfl)
    · intro L s w9 hN hU hi hS K hK
      dsimp only at hK ⊢
      simp only [Act.put, List.setIfInBounds_toArray, List.set_cons_zero, List.set_cons_succ] at hK
      go_simp
      exact hK.out _ _ (hS.val rfl rfl (Below.refl _ _) rfl)
    · intro L s w9 hN hU hi hS K hK
      dsimp only at hK ⊢
      simp only [Act.put, List.setIfInBounds_toArray, List.set_cons_zero, List.set_cons_succ] at hK
      have e7 : s 7 = .pointer (some ⟨w.heap.size + 1, 2, none⟩) := hS.val_at 7 rfl (by decide) (hN.out 7 rfl)
      simp only [e7] at hK ⊢
      obtain ⟨u1, u2, u3, u4⟩ := (hS.mem.k (i := 0) rfl).four
      go_simp
      exact hK.out _ _ (hS.val rfl rfl (Below.refl _ _) rfl)
    · intro L s w9 hN hU hi hS K hK
      dsimp only at hK ⊢
      simp only [Act.put, List.setIfInBounds_toArray, List.set_cons_zero, List.set_cons_succ] at hK
      have e6 : s 6 = .agg #[.bool m, .slice B ys.length d] := hS.val_at 6 rfl (by decide) (hN.out 6 rfl)
      simp only [e6] at hK ⊢
      have e8 : s 8 = .agg #[.bool m', .slice B' ys'.length d'] := hS.val_at 8 rfl (by decide) (hN.out 8 rfl)
      simp only [e8] at hK ⊢
      go_simp
      go_at_call 28
      refine (times_any H2.out (hS.mem.r (i := 2) rfl) (hS.mem.r (i := 0) rfl)).mono ?_
      rintro e9 w10 ⟨⟨A0, c0, rfl, h0⟩, q⟩
      exact hK.out _ _ (hS.val rfl rfl q ⟨A0, c0, rfl, h0⟩)
    · intro L s w9 hN hU hi hS K hK
      dsimp only at hK ⊢
      simp only [Act.put, List.setIfInBounds_toArray, List.set_cons_zero, List.set_cons_succ] at hK
      obtain ⟨A4, c4, e4, h4⟩ := hS.val_at 4 rfl (by decide) (hN.out 4 rfl)
      simp only [e4] at hK ⊢
      obtain ⟨A9, c9, e9, h9⟩ := hS.val_at 9 rfl (by decide) (hN.out 9 rfl)
      simp only [e9] at hK ⊢
      go_simp
      go_at_call 30
      refine (tover_any H3.out h4 h9).mono ?_
      rintro e9 w10 ⟨⟨A0, c0, B0, d0, rfl, h0, k0⟩, q⟩
      exact hK.out _ _ (hS.val rfl rfl q ⟨A0, c0, B0, d0, rfl, h0, k0⟩)
    · intro L s w9 hN hU hi hS K hK
      dsimp only at hK ⊢
      simp only [Act.put, List.setIfInBounds_toArray, List.set_cons_zero, List.set_cons_succ] at hK
      obtain ⟨A10, c10, B10, d10, e10, h10, k10⟩ := hS.val_at 10 rfl (by decide) (hN.out 10 rfl)
      simp only [e10] at hK ⊢
      go_simp
      exact hK.out _ _ (hS.val rfl rfl (Below.refl _ _) ⟨A10, c10, B10, d10, rfl, h10, k10⟩)
    · intro L s w9 hN hU hi hS K hK
      dsimp only at hK ⊢
      simp only [Act.put, List.setIfInBounds_toArray, List.set_cons_zero, List.set_cons_succ] at hK
      obtain ⟨A10, c10, B10, d10, e10, h10, k10⟩ := hS.val_at 10 rfl (by decide) (hN.out 10 rfl)
      simp only [e10] at hK ⊢
      go_simp
      exact hK.out _ _ (hS.val rfl rfl (Below.refl _ _) rfl)
    · intro L s w9 hN hU hi hS K hK
      dsimp only at hK ⊢
      simp only [Act.put, List.setIfInBounds_toArray, List.set_cons_zero, List.set_cons_succ] at hK
      obtain ⟨A11, c11, B11, d11, e11, h11, k11⟩ := hS.val_at 11 rfl (by decide) (hN.out 11 rfl)
      simp only [e11] at hK ⊢
      obtain ⟨_, _, _, cs9, b9, n9, z9, _⟩ := hS.own_at 0 rfl
      obtain rfl := z9 hi.out
      refine ite_of rfl ?_
      refine wp_store_row _ _ _ rfl (w.heap.size + 1 + 1) _ rfl rfl _ _ b9 info_rat rfl (by rw [← Array.all_toList]; rfl) ?_
      simp only [Act.put]
      exact hK.out undef _ (hS.fillOwn (u := undef) rfl (k := 0) rfl rfl rfl (setRow_grown _ _ _) (b9.row _) rfl ⟨A11, c11, B11, d11, rfl, h11, k11⟩)
    · intro L s w9 hN hU hi hS K hK
      dsimp only at hK ⊢
      simp only [Act.put, List.setIfInBounds_toArray, List.set_cons_zero, List.set_cons_succ] at hK
      have e12 : s 12 = .int .i64 r5 := hS.val_at 12 rfl (by decide) (hN.out 12 rfl)
      simp only [e12] at hK ⊢
      go_simp
      exact hK.out _ _ (hS.val rfl rfl (Below.refl _ _) rfl)
  intro L s w9 hall hS
  obtain ⟨_, _, _, ocs, ob, on, _, oz⟩ := hS.own_at 0 rfl
  obtain ⟨oA, oc, oB, od, rfl, oh, ok⟩ := oz (hall 13 (by decide))
  have eL : s 14 = .int .i64 r5 := hS.val_at 14 rfl (by decide) (hall 14 (by decide))
  obtain ⟨f1, f2, f3, f4⟩ := ob.four
  go_wp2
  exact bodyPost_ret (v := .tuple #[rv r1 oA r2.length oc r3 oB r4.length od, .int .i64 r5]) (by simp [results, Try.results11, go_sem, f1, f2, f3, f4, eL]) rfl ⟨⟨oA, oc, oB, od, rfl, oh, ok⟩, hS.mem.bel⟩
set_option maxRecDepth 100000 in
set_option maxHeartbeats 1000000 in
theorem qdiv_any {n m n' m' : Bool} {A B A' B' : Option Addr} {c d c' d' : Nat} {xs ys xs' ys' : List Nat} {w : World} (ha : Rd w A c xs) (hb : Rd w B d ys) (ha' : Rd w A' c' xs') (hb' : Rd w B' d' ys') :
    Calls Try.prog 16 #[rv n A xs.length c m B ys.length d, rv n' A' xs'.length c' m' B' ys'.length d'] w fun e w' => RetQE w w' e (qdivR n xs m ys n' xs' m' ys') := by
  have M : Mem w (((w.alloc (.cells #[.bool n, .slice A xs.length c, .bool m, .slice B ys.length d] 32)).alloc (.cells #[.bool n', .slice A' xs'.length c', .bool m', .slice B' ys'.length d'] 32)).alloc (.cells #[.bool false, .slice none 0 0, .bool false, .slice none 0 0] 32)) [(w.heap.size + 1 + 1, 32, #[.bool false, .slice none 0 0, .bool false, .slice none 0 0]), (w.heap.size + 1, 32, #[.bool n', .slice A' xs'.length c', .bool m', .slice B' ys'.length d']), (w.heap.size, 32, #[.bool n, .slice A xs.length c, .bool m, .slice B ys.length d])] [(B', d', ys'), (A', c', xs'), (B, d, ys), (A, c, xs)] :=
    ((((((((Mem.start w).addR ha).addR hb).addR ha').addR hb').new 32 #[.bool n, .slice A xs.length c, .bool m, .slice B ys.length d]).newAt (by simp) 32 #[.bool n', .slice A' xs'.length c', .bool m', .slice B' ys'.length d']).newAt (by simp) 32 #[.bool false, .slice none 0 0, .bool false, .slice none 0 0])
  have ox := ha.ok
  have oy := hb.ok
  have ox' := ha'.ok
  have oy' := hb'.ok
  clear ha hb ha' hb'
  unfold qdivR
  rw [← Bool.and_assoc]
  rcases Bool.eq_false_or_eq_true (qright n xs m ys && qright n' xs' m' ys') with h | h
  case inr =>
    rw [h]
    have HB := Lib.hid h
    clear h ox oy ox' oy'
    obtain ⟨v1, v2, v3, v4⟩ := (M.k (i := 2) rfl).four
    obtain ⟨v5, v6, v7, v8⟩ := (M.k (i := 1) rfl).four
    go_enter Try.func16, Try.ntmps16
    go_wp2_with fail
    refine (qboth_any (M.r (i := 3) rfl) (M.r (i := 2) rfl) (M.r (i := 1) rfl) (M.r (i := 0) rfl)).mono ?_
    rw [HB.out]
    rintro e z1 ⟨rfl, q⟩
    replace M := M.below q
    clear q v1 v2 v3 v4 v5 v6 v7 v8
    go_wp2_with ((with_reducible show wpList _ _ _ (Oper.mk none (Op.store _ _ _) _ _ _ _ :: _) _ _); refine wp_put (o := ⟨none, .store _ _ _, _, _, _, _⟩) _ _ (M.k (i := 0) rfl) rfl rfl rfl rfl info_rat rfl rfl ?_; intro w4 b4 g4; replace M := M.rowAt (i := 0) rfl (by omega) (by simp <;> omega) rfl b4 g4; obtain ⟨f1, f2, f3, f4⟩ := (M.k (i := 0) rfl).four)
    exact bodyPost_ret (v := .tuple #[rv false none 0 0 false none 0 0, .int .i64 2]) (by simp [results, Try.results16, go_sem, f1, f2, f3, f4]) rfl ⟨⟨none, 0, none, 0, rfl, Rd.nil, Rd.nil⟩, M.bel⟩
  by_cases hx : xs' = []
  · subst hx
    have HB := Lib.hid h
    rw [decide_eq_false (by simp), Bool.and_false]
    clear h ox oy ox' oy'
    obtain ⟨v1, v2, v3, v4⟩ := (M.k (i := 2) rfl).four
    obtain ⟨v5, v6, v7, v8⟩ := (M.k (i := 1) rfl).four
    go_enter Try.func16, Try.ntmps16
    go_wp2_with fail
    refine (qboth_any (M.r (i := 3) rfl) (M.r (i := 2) rfl) (M.r (i := 1) rfl) (M.r (i := 0) rfl)).mono ?_
    rw [HB.out]
    rintro e z1 ⟨rfl, q⟩
    replace M := M.below q
    clear q v1 v2 v3 v4 v5 v6 v7 v8
    obtain ⟨v5, v6, v7, v8⟩ := (M.k (i := 1) rfl).four
    go_wp2_with ((with_reducible show wpList _ _ _ (Oper.mk none (Op.store _ _ _) _ _ _ _ :: _) _ _); refine wp_put (o := ⟨none, .store _ _ _, _, _, _, _⟩) _ _ (M.k (i := 0) rfl) rfl rfl rfl rfl info_rat rfl rfl ?_; intro w4 b4 g4; replace M := M.rowAt (i := 0) rfl (by omega) (by simp <;> omega) rfl b4 g4; obtain ⟨f1, f2, f3, f4⟩ := (M.k (i := 0) rfl).four)
    exact bodyPost_ret (v := .tuple #[rv false none 0 0 false none 0 0, .int .i64 2]) (by simp [results, Try.results16, go_sem, f1, f2, f3, f4]) rfl ⟨⟨none, 0, none, 0, rfl, Rd.nil, Rd.nil⟩, M.bel⟩
  have d1 : ((xs'.length : Int) == 0) = false := by simp; exact hx
  rw [decide_eq_true hx, Bool.and_true]
  rw [h, if_pos rfl]
  have HB := Lib.hid h
  rw [Bool.and_eq_true] at h
  obtain ⟨an, ad, dn, dd, e1, e2, e3, -⟩ := div_facts ox oy ox' oy' h.1 h.2 hx
  generalize hz : fitQ _ = r at *
  clear hz
  obtain ⟨r1, r2, r3, r4, r5⟩ := r
  have H1 := Lib.hid e1
  have H2 := Lib.hid e2
  have H3 := Lib.hid e3
  clear h ox oy ox' oy' e1 e2 e3
  obtain ⟨v1, v2, v3, v4⟩ := (M.k (i := 2) rfl).four
  obtain ⟨v5, v6, v7, v8⟩ := (M.k (i := 1) rfl).four
  go_enter Try.func16, Try.ntmps16
  go_wp2_with fail
  refine (qboth_any (M.r (i := 3) rfl) (M.r (i := 2) rfl) (M.r (i := 1) rfl) (M.r (i := 0) rfl)).mono ?_
  rw [HB.out]
  rintro e z1 ⟨rfl, q⟩
  replace M := M.below q
  clear q v1 v2 v3 v4 v5 v6 v7 v8
  obtain ⟨v5, v6, v7, v8⟩ := (M.k (i := 1) rfl).four
  go_upto_region 3 with fail
  refine region_st (n := 15) (frame := ?frame3) (fun jK => [.val (.fix (.pointer (some ⟨w.heap.size, 0, none⟩))), .val (.fix (.agg #[.bool n, .slice A xs.length c])), .val (.fix (.pointer (some ⟨w.heap.size + 1, 2, none⟩))), .val (.fix (.agg #[.bool m', .slice B' ys'.length d'])), .val (.te (an, ad, 0)), .val (.fix (.pointer (some ⟨w.heap.size, 2, none⟩))), .val (.fix (.agg #[.bool m, .slice B ys.length d])), .val (.fix (.pointer (some ⟨w.heap.size + 1, 0, none⟩))), .val (.fix (.agg #[.bool n', .slice A' xs'.length c'])), .val (.te (dn, dd, 0)), .val (.re (r1, r2, r3, r4, r5)), .val (.rat (r1) (r2) (r3) (r4)), .val (.fix (.int .i64 r5)), .none, .val (.fix (.int .i64 r5))].getD jK .none) [⟨w.heap.size + 1 + 1, 13, 32, #[.bool false, .slice none 0 0, .bool false, .slice none 0 0], .rat r1 r2 r3 r4⟩] (by kernel_rfl) (by kernel_rfl) (by kernel_rfl) rfl (Mem.tailK M) (own_of M (by omega) (by simp <;> omega) rfl) own_one ?_ ?_ ?_
  case refine_1 =>
    intro s
    simp only [fr, Act.put, List.append_eq, List.cons_append, List.nil_append, List.setIfInBounds_toArray, List.set_cons_zero, List.set_cons_succ, Nat.reduceAdd]
    rfl
  case refine_2 =>
    refine Steps.cons 0 (j := 1) rfl ?_ (Steps.cons 1 (j := 2) rfl ?_ (Steps.cons 2 (j := 3) rfl ?_ (Steps.cons 3 (j := 4) rfl ?_ (Steps.cons 4 (j := 5) rfl ?_ (Steps.cons 5 (j := 6) rfl ?_ (Steps.cons 6 (j := 7) rfl ?_ (Steps.cons 7 (j := 8) rfl ?_ (Steps.cons 8 (j := 9) rfl ?_ (Steps.cons 9 (j := 10) rfl ?_ (Steps.cons 10 (j := 11) rfl ?_ (Steps.cons 11 (j := 12) rfl ?_ (Steps.cons 12 (j := 13) rfl ?_ (Steps.cons 13 (j := 14) rfl ?_ (Steps.cons 14 (j := 15) rfl ?_ Steps.nil))))))))))))))
    · intro L s w9 hN hU hi hS K hK
      dsimp only at hK ⊢
      simp only [Act.put, List.setIfInBounds_toArray, List.set_cons_zero, List.set_cons_succ] at hK
      go_simp
      exact hK.out _ _ (hS.val rfl rfl (Below.refl _ _) rfl)
    · intro L s w9 hN hU hi hS K hK
      dsimp only at hK ⊢
      simp only [Act.put, List.setIfInBounds_toArray, List.set_cons_zero, List.set_cons_succ] at hK
      have e0 : s 0 = .pointer (some ⟨w.heap.size, 0, none⟩) := hS.val_at 0 rfl (by decide) (hN.out 0 rfl)
      simp only [e0] at hK ⊢
      obtain ⟨u1, u2, u3, u4⟩ := (hS.mem.k (i := 1) rfl).four
      go_simp
      exact hK.out _ _ (hS.val rfl rfl (Below.refl _ _) rfl)
    · intro L s w9 hN hU hi hS K hK
      dsimp only at hK ⊢
      simp only [Act.put, List.setIfInBounds_toArray, List.set_cons_zero, List.set_cons_succ] at hK
      go_simp
      exact hK.out _ _ (hS.val rfl rfl (Below.refl _ _) rfl)
    · intro L s w9 hN hU hi hS K hK
      dsimp only at hK ⊢
      simp only [Act.put, List.setIfInBounds_toArray, List.set_cons_zero, List.set_cons_succ] at hK
      have e2 : s 2 = .pointer (some ⟨w.heap.size + 1, 2, none⟩) := hS.val_at 2 rfl (by decide) (hN.out 2 rfl)
      simp only [e2] at hK ⊢
      obtain ⟨u1, u2, u3, u4⟩ := (hS.mem.k (i := 0) rfl).four
      go_simp
      exact hK.out _ _ (hS.val rfl rfl (Below.refl _ _) rfl)
    · intro L s w9 hN hU hi hS K hK
      dsimp only at hK ⊢
      simp only [Act.put, List.setIfInBounds_toArray, List.set_cons_zero, List.set_cons_succ] at hK
      have e1 : s 1 = .agg #[.bool n, .slice A xs.length c] := hS.val_at 1 rfl (by decide) (hN.out 1 rfl)
      simp only [e1] at hK ⊢
      have e3 : s 3 = .agg #[.bool m', .slice B' ys'.length d'] := hS.val_at 3 rfl (by decide) (hN.out 3 rfl)
      simp only [e3] at hK ⊢
      go_simp
      go_at_call 28
      refine (times_any H1.out (hS.mem.r (i := 3) rfl) (hS.mem.r (i := 0) rfl)).mono ?_
      rintro e9 w10 ⟨⟨A0, c0, rfl, h0⟩, q⟩
      exact hK.out _ _ (hS.val rfl rfl q ⟨A0, c0, rfl, h0⟩)
    · intro L s w9 hN hU hi hS K hK
      dsimp only at hK ⊢
      simp only [Act.put, List.setIfInBounds_toArray, List.set_cons_zero, List.set_cons_succ] at hK
      go_simp
      exact hK.out _ _ (hS.val rfl rfl (Below.refl _ _) rfl)
    · intro L s w9 hN hU hi hS K hK
      dsimp only at hK ⊢
      simp only [Act.put, List.setIfInBounds_toArray, List.set_cons_zero, List.set_cons_succ] at hK
      have e5 : s 5 = .pointer (some ⟨w.heap.size, 2, none⟩) := hS.val_at 5 rfl (by decide) (hN.out 5 rfl)
      simp only [e5] at hK ⊢
      obtain ⟨u1, u2, u3, u4⟩ := (hS.mem.k (i := 1) rfl).four
      go_simp
      exact hK.out _ _ (hS.val rfl rfl (Below.refl _ _) rfl)
    · intro L s w9 hN hU hi hS K hK
      dsimp only at hK ⊢
      simp only [Act.put, List.setIfInBounds_toArray, List.set_cons_zero, List.set_cons_succ] at hK
      go_simp
      exact hK.out _ _ (hS.val rfl rfl (Below.refl _ _) rfl)
    · intro L s w9 hN hU hi hS K hK
      dsimp only at hK ⊢
      simp only [Act.put, List.setIfInBounds_toArray, List.set_cons_zero, List.set_cons_succ] at hK
      have e7 : s 7 = .pointer (some ⟨w.heap.size + 1, 0, none⟩) := hS.val_at 7 rfl (by decide) (hN.out 7 rfl)
      simp only [e7] at hK ⊢
      obtain ⟨u1, u2, u3, u4⟩ := (hS.mem.k (i := 0) rfl).four
      go_simp
      exact hK.out _ _ (hS.val rfl rfl (Below.refl _ _) rfl)
    · intro L s w9 hN hU hi hS K hK
      dsimp only at hK ⊢
      simp only [Act.put, List.setIfInBounds_toArray, List.set_cons_zero, List.set_cons_succ] at hK
      have e6 : s 6 = .agg #[.bool m, .slice B ys.length d] := hS.val_at 6 rfl (by decide) (hN.out 6 rfl)
      simp only [e6] at hK ⊢
      have e8 : s 8 = .agg #[.bool n', .slice A' xs'.length c'] := hS.val_at 8 rfl (by decide) (hN.out 8 rfl)
      simp only [e8] at hK ⊢
      go_simp
      go_at_call 28
      refine (times_any H2.out (hS.mem.r (i := 2) rfl) (hS.mem.r (i := 1) rfl)).mono ?_
      rintro e9 w10 ⟨⟨A0, c0, rfl, h0⟩, q⟩
      exact hK.out _ _ (hS.val rfl rfl q ⟨A0, c0, rfl, h0⟩)
    · intro L s w9 hN hU hi hS K hK
      dsimp only at hK ⊢
      simp only [Act.put, List.setIfInBounds_toArray, List.set_cons_zero, List.set_cons_succ] at hK
      obtain ⟨A4, c4, e4, h4⟩ := hS.val_at 4 rfl (by decide) (hN.out 4 rfl)
      simp only [e4] at hK ⊢
      obtain ⟨A9, c9, e9, h9⟩ := hS.val_at 9 rfl (by decide) (hN.out 9 rfl)
      simp only [e9] at hK ⊢
      go_simp
      go_at_call 30
      refine (tover_any H3.out h4 h9).mono ?_
      rintro e9 w10 ⟨⟨A0, c0, B0, d0, rfl, h0, k0⟩, q⟩
      exact hK.out _ _ (hS.val rfl rfl q ⟨A0, c0, B0, d0, rfl, h0, k0⟩)
    · intro L s w9 hN hU hi hS K hK
      dsimp only at hK ⊢
      simp only [Act.put, List.setIfInBounds_toArray, List.set_cons_zero, List.set_cons_succ] at hK
      obtain ⟨A10, c10, B10, d10, e10, h10, k10⟩ := hS.val_at 10 rfl (by decide) (hN.out 10 rfl)
      simp only [e10] at hK ⊢
      go_simp
      exact hK.out _ _ (hS.val rfl rfl (Below.refl _ _) ⟨A10, c10, B10, d10, rfl, h10, k10⟩)
    · intro L s w9 hN hU hi hS K hK
      dsimp only at hK ⊢
      simp only [Act.put, List.setIfInBounds_toArray, List.set_cons_zero, List.set_cons_succ] at hK
      obtain ⟨A10, c10, B10, d10, e10, h10, k10⟩ := hS.val_at 10 rfl (by decide) (hN.out 10 rfl)
      simp only [e10] at hK ⊢
      go_simp
      exact hK.out _ _ (hS.val rfl rfl (Below.refl _ _) rfl)
    · intro L s w9 hN hU hi hS K hK
      dsimp only at hK ⊢
      simp only [Act.put, List.setIfInBounds_toArray, List.set_cons_zero, List.set_cons_succ] at hK
      obtain ⟨A11, c11, B11, d11, e11, h11, k11⟩ := hS.val_at 11 rfl (by decide) (hN.out 11 rfl)
      simp only [e11] at hK ⊢
      obtain ⟨_, _, _, cs9, b9, n9, z9, _⟩ := hS.own_at 0 rfl
      obtain rfl := z9 hi.out
      refine ite_of rfl ?_
      refine wp_store_row _ _ _ rfl (w.heap.size + 1 + 1) _ rfl rfl _ _ b9 info_rat rfl (by rw [← Array.all_toList]; rfl) ?_
      simp only [Act.put]
      exact hK.out undef _ (hS.fillOwn (u := undef) rfl (k := 0) rfl rfl rfl (setRow_grown _ _ _) (b9.row _) rfl ⟨A11, c11, B11, d11, rfl, h11, k11⟩)
    · intro L s w9 hN hU hi hS K hK
      dsimp only at hK ⊢
      simp only [Act.put, List.setIfInBounds_toArray, List.set_cons_zero, List.set_cons_succ] at hK
      have e12 : s 12 = .int .i64 r5 := hS.val_at 12 rfl (by decide) (hN.out 12 rfl)
      simp only [e12] at hK ⊢
      go_simp
      exact hK.out _ _ (hS.val rfl rfl (Below.refl _ _) rfl)
  intro L s w9 hall hS
  obtain ⟨_, _, _, ocs, ob, on, _, oz⟩ := hS.own_at 0 rfl
  obtain ⟨oA, oc, oB, od, rfl, oh, ok⟩ := oz (hall 13 (by decide))
  have eL : s 14 = .int .i64 r5 := hS.val_at 14 rfl (by decide) (hall 14 (by decide))
  obtain ⟨f1, f2, f3, f4⟩ := ob.four
  go_wp2
  exact bodyPost_ret (v := .tuple #[rv r1 oA r2.length oc r3 oB r4.length od, .int .i64 r5]) (by simp [results, Try.results16, go_sem, f1, f2, f3, f4, eL]) rfl ⟨⟨oA, oc, oB, od, rfl, oh, ok⟩, hS.mem.bel⟩
end Go.Proofs.Ytlmgdhdakeekkaa

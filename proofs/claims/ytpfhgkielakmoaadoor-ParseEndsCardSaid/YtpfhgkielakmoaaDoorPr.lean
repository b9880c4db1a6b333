/-
  ParseEnds.
-/
import Derived.Test.YtpfhgkielakmoaaDoorPq
set_option linter.unusedSimpArgs false
set_option linter.unusedVariables false
namespace Go.Proofs.YtpfhgkielakmoaaDoor
open Go.RowKit Num

set_option maxRecDepth 100000 in
set_option maxHeartbeats 4000000 in
theorem starts_any (k : Int) (nm : List UInt8) (bo : Bool) (D : Value) (size : Int) (ou : Bool) (V : Value) (ask : Int) (t : List UInt8) (dom : List (Int × Int)) (vals : List Ex) (h : startsP ⟨k, nm, bo, dom, size, ou, vals, ask⟩ t = true) (w : World) :
    Calls Tryd.prog 12 #[.agg #[.int .i64 k, .string ⟨nm.toArray⟩, .bool bo, D, .int .i64 size, .bool ou, V, .int .i64 ask], .string ⟨t.toArray⟩] w fun e w' => e = .returned (.bool true) ∧ Below w.heap.size w w' := by
  have hq : w.grownBy w none := World.grownBy.refl _ _
  have hb := below_alloc1 w (.cells #[.int .i64 k, .string ⟨nm.toArray⟩, .bool bo, D, .int .i64 size, .bool ou, V, .int .i64 ask] 41)
  unfold startsP at h
  dsimp only at h
  by_cases h1 : t = wInt
  · subst h1
    simp at h
    obtain ⟨rfl, rfl⟩ := h
    clear hq
    go_enter Tryd.func12, Tryd.ntmps12
    go_wp2_with fail
    go_ret
    exact ⟨rfl, hb⟩
  rw [if_neg h1] at h
  have d1 : (t == [105, 110, 116]) = false := beq_eq_false_iff_ne.2 h1
  by_cases h2 : t = wBool
  · subst h2
    simp at h
    obtain ⟨rfl, rfl⟩ := h
    clear hq d1 h1
    go_enter Tryd.func12, Tryd.ntmps12
    go_wp2_with fail
    go_ret
    exact ⟨rfl, hb⟩
  rw [if_neg h2] at h
  by_cases h3 : t = wVar
  · subst h3
    simp at h
    subst h
    clear hq d1 h1 h2
    go_enter Tryd.func12, Tryd.ntmps12
    go_wp2_with fail
    go_ret
    exact ⟨rfl, hb⟩
  rw [if_neg h3] at h
  by_cases h4 : t = wArray
  · subst h4
    simp at h
    clear hq d1 h1 h2 h3
    rcases h with rfl | rfl
    · go_enter Tryd.func12, Tryd.ntmps12
      go_wp2_with fail
      go_ret
      exact ⟨rfl, hb⟩
    · go_enter Tryd.func12, Tryd.ntmps12
      go_wp2_with fail
      go_ret
      exact ⟨rfl, hb⟩
  rw [if_neg h4] at h
  by_cases h5 : t = wConstraint
  · subst h5
    simp at h
    subst h
    clear hq d1 h1 h2 h3 h4
    go_enter Tryd.func12, Tryd.ntmps12
    go_wp2_with fail
    go_ret
    exact ⟨rfl, hb⟩
  rw [if_neg h5] at h
  simp at h
  obtain ⟨rfl, rfl⟩ := h
  clear hq d1 h1 h2 h3 h4 h5
  go_enter Tryd.func12, Tryd.ntmps12
  go_wp2_with fail
  go_ret
  exact ⟨rfl, hb⟩
set_option maxRecDepth 100000 in
set_option maxHeartbeats 8000000 in
theorem parseEnds_use (w : World) (hE : ErrVars w) (s : ByteArray) (hs : s.size ≤ maxLen) : Calls Tryd.prog 5 #[.string s] w fun e w' => e = .returned (.bool true) ∧ Below w.heap.size w w' := by
  unfold maxLen at hs
  by_cases h9 : s.size ≤ 9000
  · have d1 : decide ((9000 : Int) < (s.size : Int)) = false := decide_eq_false (by omega)
    have hp := @textP_items s.data.toList
    have hp2 := @textP_split s.data.toList
    have hn := splitR_len s.data.toList
    have HP := Lib.hid hp
    have HP2 := Lib.hid hp2
    clear hp hp2
    go_enter Tryd.func5, Tryd.ntmps5
    go_wp2_with fail
    refine (alive6_any w hE).mono ?_
    rintro e w1 ⟨rfl, q1⟩
    have hE1 := hE.below q1
    clear hE
    go_wp2_with fail
    refine (ptext_any s w1 hE1 (by omega)).mono ?_
    rintro e w2 ⟨A, c, rfl, hA, q2⟩
    have hE2 := hE1.below q2
    clear hE1
    go_wp2_with fail
    refine (split_any s w2 hE2).mono ?_
    rintro e w3 h3
    obtain ⟨B, d, rfl, hB, q3⟩ := h3.rd
    have hA3 := Dt.below _ hA q3 (Nat.le_refl _)
    clear h3 hA hE2
    have q := below_trans (below_trans q1 q2) q3
    have hp := HP.out
    have hp2 := HP2.out
    clear HP HP2 q1 q2 q3
    generalize textP s.data.toList = R at *
    generalize splitR s.data.toList = S at *
    obtain ⟨xs, at_, er⟩ := R
    obtain ⟨l, p, ef⟩ := S
    dsimp only at *
    by_cases he : er = 0
    · subst he
      obtain ⟨k1, k2, rfl⟩ := hp rfl
      obtain ⟨rfl, _⟩ := hp2 rfl
      have HI := Lib.hid k1
      clear hp hp2 k1
      go_wp2_with fail
      go_loopg [9, 10, 12, 38] l.length (fun k a9 a10 a12 a38 wr => ∃ i m b, k = l.length - i ∧ i ≤ l.length ∧ a38 = .int .i64 (i : Nat) ∧ a9 = .int .i64 (m : Nat) ∧ a10 = .bool b ∧ m ≤ xs.length ∧ Hid (Ends b (l.drop i) (xs.drop m)) ∧ Below w.heap.size w wr ∧ Below w3.heap.size w3 wr)
      case atStart => exact ⟨0, 0, true, rfl, Nat.zero_le _, rfl, rfl, rfl, Nat.zero_le _, HI.out, q, Below.refl _ _⟩
      case round =>
        obtain ⟨i, m, b, hk, hi, rfl, rfl, rfl, hm, hT, hb, hb3⟩ := hrel
        by_cases hlt : i < l.length
        · have d2 : decide ((i : Int) < (l.length : Int)) = true := decide_eq_true (by omega)
          obtain ⟨b2, o2, hA2, hbl, hc⟩ := (hB.below hb3 (Nat.le_refl _)).at_ (lt_ne hlt)
          obtain ⟨c1, c2, c3, c4⟩ := hc i hlt
          have hd : l.drop i = l[i] :: l.drop (i + 1) := List.drop_eq_getElem_cons hlt
          have ht := hT.out
          rw [hd] at ht
          clear hT hd hc
          generalize l[i] = t at *
          have hb4 := below_trans hb (below_alloc1 wr (.cells #[.int .i64 t.k, .string ⟨t.t.toArray⟩, .int .i64 t.v, .int .i64 t.at_] 36))
          have hb5 := below_trans hb3 (below_alloc1 wr (.cells #[.int .i64 t.k, .string ⟨t.t.toArray⟩, .int .i64 t.v, .int .i64 t.at_] 36))
          subst hA2
          cases b with
          | true =>
            obtain ⟨x, ys, h1, h2, h3, h4⟩ := ends_begin (show Items (t :: l.drop (i + 1)) (xs.drop m) from ht)
            have hml : m < xs.length := by
              rcases Nat.lt_or_ge m xs.length with h | h
              · exact h
              · rw [List.drop_of_length_le h] at h1
                cases h1
            have hx : xs[m] = x := by
              rw [List.drop_eq_getElem_cons hml] at h1
              exact (List.cons.inj h1).1
            have ds : (t.t == [59]) = false := beq_eq_false_iff_ne.2 h3
            have dm : decide (xs.length ≤ m) = false := decide_eq_false (by omega)
            have H4 := Lib.hid h4
            have H2 := Lib.hid h2
            have k12 : Blk (wr.alloc (.cells #[.int .i64 t.k, .string ⟨t.t.toArray⟩, .int .i64 t.v, .int .i64 t.at_] 36)) wr.heap.size 36 #[.int .i64 t.k, .string ⟨t.t.toArray⟩, .int .i64 t.v, .int .i64 t.at_] := Blk.new ..
            obtain ⟨b3, o3, hA4, hbl3, hc3⟩ := row_it (Dt.below _ hA3 hb5 (Nat.le_refl _)) (lt_ne hml)
            obtain ⟨f0, f1, f2, f4, f5, f7, ⟨A3, n3, f3, -⟩, A6, n6, f6, -⟩ := hc3 m hml
            rw [hx] at f0 f1 f2 f3 f4 f5 f6 f7
            obtain ⟨xk, xn, xb, xd, xz, xo, xv, xa⟩ := x
            dsimp only at f0 f1 f2 f3 f4 f5 f6 f7
            subst hA4
            clear h1 h2 h3 h4 hx hc3 ht
            go_upto_region 15 with fail
            clear c1 c2 c3 c4
            generalize hW : wr.alloc (.cells #[.int .i64 t.k, .string ⟨t.t.toArray⟩, .int .i64 t.v, .int .i64 t.at_] 36) = W at *
            clear hW
            have M : Mem W W [(wr.heap.size, 36, #[.int .i64 t.k, .string ⟨t.t.toArray⟩, .int .i64 t.v, .int .i64 t.at_])] [] := (Mem.start W).addK k12
            refine region_st (n := 14) (frame := ?frame1) (fun j => [.val (.fix (.int .i64 m)), .val (.fix (.slice (some ⟨b3, o3, none⟩) xs.length c)), .val (.fix (.int .i64 (xs.length : Int))), .val (.fix (.bool false)), .val (.fix (.bool false)), .val (.fix (.slice (some ⟨b3, o3, none⟩) xs.length c)), .val (.fix (.int .i64 m)), .val (.fix (.pointer (some ⟨b3, o3 + m * 8, none⟩))), .val (.fix (.agg #[.int .i64 xk, .string ⟨xn.toArray⟩, .bool xb, .slice A3 xd.length n3, .int .i64 xz, .bool xo, .slice A6 xv.length n6, .int .i64 xa])), .val (.fix (.pointer (some ⟨wr.heap.size, 1, none⟩))), .val (.fix (.string ⟨t.t.toArray⟩)), .val (.fix (.bool true)), .val (.fix (.bool false)), .val (.fix (.bool false))].getD j .none) [] (by kernel_rfl) (by kernel_rfl) (by kernel_rfl) rfl M (fun _ h => by cases h) (fun _ h => by cases h) ?_ ?_ ?_
            case refine_1 =>
              intro s
              simp only [fr, Act.put, List.append_eq, List.cons_append, List.nil_append, List.setIfInBounds_toArray, List.set_cons_zero, List.set_cons_succ, Nat.reduceAdd]
              rfl
            case refine_2 =>
              refine Steps.cons 0 (j := 1) rfl ?_ (Steps.cons 1 (j := 2) rfl ?_ (Steps.cons 2 (j := 3) rfl ?_ (Steps.cons 3 (j := 4) rfl ?_ (Steps.cons 4 (j := 5) rfl ?_ (Steps.cons 5 (j := 6) rfl ?_ (Steps.cons 6 (j := 7) rfl ?_ (Steps.cons 7 (j := 8) rfl ?_ (Steps.cons 8 (j := 9) rfl ?_ (Steps.cons 9 (j := 10) rfl ?_ (Steps.cons 10 (j := 11) rfl ?_ (Steps.cons 11 (j := 12) rfl ?_ (Steps.cons 12 (j := 13) rfl ?_ (Steps.cons 13 (j := 14) rfl ?_ Steps.nil)))))))))))))
              · intro L s w9 hN hU hi hS K hK
                dsimp only at hK ⊢
                simp only [Act.put, List.setIfInBounds_toArray, List.set_cons_zero, List.set_cons_succ] at hK
                go_simp
                exact hK.out _ _ (hS.val rfl (noStore_of rfl) (Below.refl _ _) rfl)
              · intro L s w9 hN hU hi hS K hK
                dsimp only at hK ⊢
                simp only [Act.put, List.setIfInBounds_toArray, List.set_cons_zero, List.set_cons_succ] at hK
                go_simp
                exact hK.out _ _ (hS.val rfl (noStore_of rfl) (Below.refl _ _) rfl)
              · intro L s w9 hN hU hi hS K hK
                dsimp only at hK ⊢
                simp only [Act.put, List.setIfInBounds_toArray, List.set_cons_zero, List.set_cons_succ] at hK
                have e1 : s 1 = .slice (some ⟨b3, o3, none⟩) xs.length c := hS.val_at 1 rfl (by decide) (hN.out 1 rfl)
                simp only [e1] at hK ⊢
                go_simp
                exact hK.out _ _ (hS.val rfl (noStore_of rfl) (Below.refl _ _) rfl)
              · intro L s w9 hN hU hi hS K hK
                dsimp only at hK ⊢
                simp only [Act.put, List.setIfInBounds_toArray, List.set_cons_zero, List.set_cons_succ] at hK
                have e0 : s 0 = .int .i64 m := hS.val_at 0 rfl (by decide) (hN.out 0 rfl)
                simp only [e0] at hK ⊢
                have e2 : s 2 = .int .i64 (xs.length : Int) := hS.val_at 2 rfl (by decide) (hN.out 2 rfl)
                simp only [e2] at hK ⊢
                go_simp
                exact hK.out _ _ (hS.val rfl (noStore_of rfl) (Below.refl _ _) rfl)
              · intro L s w9 hN hU hi hS K hK
                dsimp only at hK ⊢
                simp only [Act.put, List.setIfInBounds_toArray, List.set_cons_zero, List.set_cons_succ] at hK
                have e3 : s 3 = .bool false := hS.val_at 3 rfl (by decide) (hN.out 3 rfl)
                simp only [e3] at hK ⊢
                go_simp
                exact hK.out _ _ (hS.val rfl (noStore_of rfl) (Below.refl _ _) rfl)
              · intro L s w9 hN hU hi hS K hK
                dsimp only at hK ⊢
                simp only [Act.put, List.setIfInBounds_toArray, List.set_cons_zero, List.set_cons_succ] at hK
                have e4 : s 4 = .bool false := hS.val_at 4 rfl (by decide) (hN.out 4 rfl)
                simp only [e4] at hK ⊢
                go_simp
                exact hK.out _ _ (hS.val rfl (noStore_of rfl) (Below.refl _ _) rfl)
              · intro L s w9 hN hU hi hS K hK
                dsimp only at hK ⊢
                simp only [Act.put, List.setIfInBounds_toArray, List.set_cons_zero, List.set_cons_succ] at hK
                have e4 : s 4 = .bool false := hS.val_at 4 rfl (by decide) (hN.out 4 rfl)
                simp only [e4] at hK ⊢
                go_simp
                exact hK.out _ _ (hS.val rfl (noStore_of rfl) (Below.refl _ _) rfl)
              · intro L s w9 hN hU hi hS K hK
                dsimp only at hK ⊢
                simp only [Act.put, List.setIfInBounds_toArray, List.set_cons_zero, List.set_cons_succ] at hK
                have e5 : s 5 = .slice (some ⟨b3, o3, none⟩) xs.length c := hS.val_at 5 rfl (by decide) (hN.out 5 rfl)
                simp only [e5] at hK ⊢
                have e6 : s 6 = .int .i64 m := hS.val_at 6 rfl (by decide) (hN.out 6 rfl)
                simp only [e6] at hK ⊢
                have e4 : s 4 = .bool false := hS.val_at 4 rfl (by decide) (hN.out 4 rfl)
                simp only [e4] at hK ⊢
                go_simp
                exact hK.out _ _ (hS.val rfl (noStore_of rfl) (Below.refl _ _) rfl)
              · intro L s w9 hN hU hi hS K hK
                dsimp only at hK ⊢
                simp only [Act.put, List.setIfInBounds_toArray, List.set_cons_zero, List.set_cons_succ] at hK
                have e7 : s 7 = .pointer (some ⟨b3, o3 + m * 8, none⟩) := hS.val_at 7 rfl (by decide) (hN.out 7 rfl)
                simp only [e7] at hK ⊢
                have e4 : s 4 = .bool false := hS.val_at 4 rfl (by decide) (hN.out 4 rfl)
                simp only [e4] at hK ⊢
                have u0 := (hS.mem.bel.cell (p := ⟨b3, o3 + m * 8, none⟩) hbl3).trans f0
                have u1 := (hS.mem.bel.cell (p := ⟨b3, o3 + m * 8 + 1, none⟩) hbl3).trans f1
                have u2 := (hS.mem.bel.cell (p := ⟨b3, o3 + m * 8 + 2, none⟩) hbl3).trans f2
                have u3 := (hS.mem.bel.cell (p := ⟨b3, o3 + m * 8 + 3, none⟩) hbl3).trans f3
                have u4 := (hS.mem.bel.cell (p := ⟨b3, o3 + m * 8 + 4, none⟩) hbl3).trans f4
                have u5 := (hS.mem.bel.cell (p := ⟨b3, o3 + m * 8 + 5, none⟩) hbl3).trans f5
                have u6 := (hS.mem.bel.cell (p := ⟨b3, o3 + m * 8 + 6, none⟩) hbl3).trans f6
                have u7 := (hS.mem.bel.cell (p := ⟨b3, o3 + m * 8 + 7, none⟩) hbl3).trans f7
                go_simp
                exact hK.out _ _ (hS.val rfl (noStore_of rfl) (Below.refl _ _) rfl)
              · intro L s w9 hN hU hi hS K hK
                dsimp only at hK ⊢
                simp only [Act.put, List.setIfInBounds_toArray, List.set_cons_zero, List.set_cons_succ] at hK
                have e4 : s 4 = .bool false := hS.val_at 4 rfl (by decide) (hN.out 4 rfl)
                simp only [e4] at hK ⊢
                go_simp
                exact hK.out _ _ (hS.val rfl (noStore_of rfl) (Below.refl _ _) rfl)
              · intro L s w9 hN hU hi hS K hK
                dsimp only at hK ⊢
                simp only [Act.put, List.setIfInBounds_toArray, List.set_cons_zero, List.set_cons_succ] at hK
                have e9 : s 9 = .pointer (some ⟨wr.heap.size, 1, none⟩) := hS.val_at 9 rfl (by decide) (hN.out 9 rfl)
                simp only [e9] at hK ⊢
                have e4 : s 4 = .bool false := hS.val_at 4 rfl (by decide) (hN.out 4 rfl)
                simp only [e4] at hK ⊢
                obtain ⟨u1, u2, u3, u4⟩ := (hS.mem.k (i := 0) rfl).four
                go_simp
                exact hK.out _ _ (hS.val rfl (noStore_of rfl) (Below.refl _ _) rfl)
              · intro L s w9 hN hU hi hS K hK
                dsimp only at hK ⊢
                simp only [Act.put, List.setIfInBounds_toArray, List.set_cons_zero, List.set_cons_succ] at hK
                have e8 : s 8 = .agg #[.int .i64 xk, .string ⟨xn.toArray⟩, .bool xb, .slice A3 xd.length n3, .int .i64 xz, .bool xo, .slice A6 xv.length n6, .int .i64 xa] := hS.val_at 8 rfl (by decide) (hN.out 8 rfl)
                simp only [e8] at hK ⊢
                have e10 : s 10 = .string ⟨t.t.toArray⟩ := hS.val_at 10 rfl (by decide) (hN.out 10 rfl)
                simp only [e10] at hK ⊢
                have e4 : s 4 = .bool false := hS.val_at 4 rfl (by decide) (hN.out 4 rfl)
                simp only [e4] at hK ⊢
                go_simp
                go_at_call 12
                refine (starts_any xk xn xb (.slice A3 xd.length n3) xz xo (.slice A6 xv.length n6) xa t.t xd xv H2.out _).mono ?_
                rintro e9 w10 ⟨rfl, q⟩
                exact hK.out _ _ (hS.val rfl (noStore_of rfl) q rfl)
              · intro L s w9 hN hU hi hS K hK
                dsimp only at hK ⊢
                simp only [Act.put, List.setIfInBounds_toArray, List.set_cons_zero, List.set_cons_succ] at hK
                have e11 : s 11 = .bool true := hS.val_at 11 rfl (by decide) (hN.out 11 rfl)
                simp only [e11] at hK ⊢
                have e4 : s 4 = .bool false := hS.val_at 4 rfl (by decide) (hN.out 4 rfl)
                simp only [e4] at hK ⊢
                go_simp
                exact hK.out _ _ (hS.val rfl (noStore_of rfl) (Below.refl _ _) rfl)
              · intro L s w9 hN hU hi hS K hK
                dsimp only at hK ⊢
                simp only [Act.put, List.setIfInBounds_toArray, List.set_cons_zero, List.set_cons_succ] at hK
                have e4 : s 4 = .bool false := hS.val_at 4 rfl (by decide) (hN.out 4 rfl)
                simp only [e4] at hK ⊢
                have e12 : s 12 = .bool false := hS.val_at 12 rfl (by decide) (hN.out 12 rfl)
                simp only [e12] at hK ⊢
                go_simp
                exact hK.out _ _ (hS.val rfl (noStore_of rfl) (Below.refl _ _) rfl)
            intro L s w9 hall hS
            have e13 : s 13 = .bool false := hS.val_at 13 rfl (by decide) (hall 13 (by decide))
            generalize s 13 = u13 at e13 ⊢
            subst e13
            obtain ⟨v1, v2, v3, v4⟩ := (hS.mem.k (i := 0) rfl).four
            have hb6 := below_trans hb4 hS.mem.bel
            have hb7 := below_trans hb5 hS.mem.bel
            clear hS M hall
            go_wp2_with fail
            go_roundg (l.length - (i + 1))
            case measure => omega
            case rel => exact ⟨i + 1, m, false, rfl, by omega, by simp, rfl, rfl, by omega, H4, hb6, hb7⟩
          | false =>
            obtain ⟨h1, h2⟩ := ends_on ht
            by_cases hs : t.t = semi
            · obtain ⟨x, ys, h3, h4⟩ := h1 hs
              have hml : m < xs.length := by
                rcases Nat.lt_or_ge m xs.length with h | h
                · exact h
                · rw [List.drop_of_length_le h] at h3
                  cases h3
              have h5 : xs.drop (m + 1) = ys := by
                rw [List.drop_eq_getElem_cons hml] at h3
                exact (List.cons.inj h3).2
              rw [← h5] at h4
              have H4 := Lib.hid h4
              have ds : (t.t == [59]) = true := by rw [hs]; rfl
              clear h1 h2 h3 h4 h5 hs ht
              go_wp2_with fail
              go_roundg (l.length - (i + 1))
              case measure => omega
              case rel => exact ⟨i + 1, m + 1, true, rfl, by omega, by simp, by simp, rfl, by omega, H4, hb4, hb5⟩
            · have H4 := Lib.hid (h2 hs)
              have ds : (t.t == [59]) = false := beq_eq_false_iff_ne.2 hs
              clear h1 h2 hs ht
              go_wp2_with fail
              go_roundg (l.length - (i + 1))
              case measure => omega
              case rel => exact ⟨i + 1, m, false, rfl, by omega, by simp, rfl, rfl, by omega, H4, hb4, hb5⟩
        · have d2 : decide ((i : Int) < (l.length : Int)) = false := decide_eq_false (by omega)
          have ht := hT.out
          rw [List.drop_of_length_le (by omega)] at ht
          obtain ⟨rfl, h2⟩ := ends_nil ht
          obtain rfl : m = xs.length := by
            have := congrArg List.length h2
            rw [List.length_drop, List.length_nil] at this
            omega
          clear ht h2 hT
          go_wp2_with fail
          go_ret
          exact ⟨rfl, hb⟩
    · have d2 : (er != 0) = true := ne_bool he
      clear hp hp2 he
      go_wp2_with fail
      go_ret
      exact ⟨rfl, q⟩
  · have d1 : decide ((9000 : Int) < (s.size : Int)) = true := decide_eq_true (by omega)
    go_enter Tryd.func5, Tryd.ntmps5
    go_wp2_with fail
    refine (alive6_any w hE).mono ?_
    rintro e w1 ⟨rfl, q1⟩
    go_wp2_with fail
    go_ret
    exact ⟨rfl, q1⟩
end Go.Proofs.YtpfhgkielakmoaaDoor

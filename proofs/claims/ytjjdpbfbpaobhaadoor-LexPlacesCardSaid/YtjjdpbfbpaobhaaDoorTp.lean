/-
  LexPlaces: its walk.
-/
import Derived.Test.YtjjdpbfbpaobhaaDoorTo
set_option linter.unusedSimpArgs false
set_option linter.unusedVariables false
namespace Go.Proofs.YtjjdpbfbpaobhaaDoor
open Go.RowKit Num

set_option maxRecDepth 100000 in
theorem blankS_yes (s : ByteArray) (w : World) (h : splitR s.data.toList = ([], 0, 0)) : Calls Tryd.prog 15 #[.string s] w fun e w' => e = .returned (.bool true) ∧ Below w.heap.size w w' := by
  have hr : Calls Tryd.prog 9 #[.string s] w fun e w' => ∃ A c, e = .returned (.tuple #[.slice A 0 c, .int .i64 0, .int .i64 0]) ∧ Below w.heap.size w w' :=
    (rsplit_any s w).mono fun e w' hh => by
      rw [h] at hh
      obtain ⟨A, c, h1, _, h2⟩ := hh.rd
      exact ⟨A, c, h1, h2⟩
  clear h
  go_enter Tryd.func15, Tryd.ntmps15
  go_wp2_with fail
  refine hr.mono ?_
  clear hr
  rintro e w1 ⟨A, c, rfl, q1⟩
  go_wp2_with fail
  go_ret
  exact ⟨rfl, q1⟩
theorem splitR_blank {l : List UInt8} (h : blankL l = []) (hl : l.length ≤ 8192) : splitR l = ([], 0, 0) := by
  rw [splitR_small hl, h, splitB_nil]
theorem ext_at {s : ByteArray} {a b : Nat} (h : a ≤ b) : (s.extract a b).data.toList = (s.data.toList.drop a).take (b - a) := by
  obtain ⟨m, rfl⟩ : ∃ m, b = a + m := ⟨b - a, by omega⟩
  rw [take_ext]
  congr 1
  omega
theorem wrap_in {n : Int} (h1 : -9223372036854775808 ≤ n) (h2 : n < 9223372036854775808) : IntKind.i64.wrap n = n := IntWalk.i64_in _ (by omega)
set_option maxRecDepth 100000 in
set_option maxHeartbeats 40000000 in
theorem lexPlaces_use (w : World) (hE : ErrVars w) (sx : ByteArray) (hs : sx.size ≤ maxLen) : Calls Tryd.prog 5 #[.string sx] w fun e w' => e = .returned (.bool true) ∧ Below w.heap.size w w' := by
  unfold maxLen at hs
  by_cases h9 : sx.size ≤ 9000
  · have d1 : decide ((9000 : Int) < (sx.size : Int)) = false := decide_eq_false (by omega)
    have hp := places_plain sx.data.toList
    have hn := splitR_len sx.data.toList
    have hbig : sx.size ≤ 8192 ∨ (splitR sx.data.toList).2.2 ≠ 0 := by
      by_cases h : 8192 < sx.size
      · right
        unfold splitR
        rw [if_pos (by simpa using h)]
        simp
      · left
        omega
    go_enter Tryd.func5, Tryd.ntmps5
    go_wp2_with fail
    refine (alive_any w hE).mono ?_
    rintro e w1 ⟨rfl, q1⟩
    have hE1 := hE.below q1
    clear hE
    go_wp2_with fail
    refine (split_any sx w1 hE1).mono ?_
    rintro e w2 h2
    obtain ⟨A, c, rfl, hA, q2⟩ := h2.rd
    clear h2 hE1
    generalize splitR sx.data.toList = r at *
    obtain ⟨l, p, er⟩ := r
    dsimp only at *
    have q := below_trans q1 q2
    by_cases her : er = 0
    · subst her
      have hs2 : sx.size ≤ 8192 := by
        rcases hbig with h | h
        · exact h
        · exact absurd rfl h
      obtain ⟨rfl, hpl⟩ := hp.1 rfl
      have HPL := Lib.hid hpl
      clear hp hpl hbig q1
      go_wp2_with fail
      go_loopg [6, 41] l.length (fun k v6 v41 wr => ∃ j last : Nat, k = l.length - j ∧ j ≤ l.length ∧ v41 = .int .i64 (j : Nat) ∧ v6 = .int .i64 (last : Nat) ∧ Hid (placesOK sx.data.toList last (l.drop j)) ∧ Below w2.heap.size w2 wr)
      case atStart => exact ⟨0, 0, rfl, Nat.zero_le _, rfl, rfl, HPL, Below.refl _ _⟩
      case round =>
        obtain ⟨j, last, hk, hj, rfl, rfl, hP, hb⟩ := hrel
        by_cases hlt : j < l.length
        · have d2 : decide ((j : Int) < (l.length : Int)) = true := decide_eq_true (by omega)
          have hd : l.drop j = l[j] :: l.drop (j + 1) := List.drop_eq_getElem_cons hlt
          have hP2 := hP.out
          rw [hd] at hP2
          obtain ⟨a, ea, p1, p2, p3, p4, p5, p6, p7, p8, p9⟩ := hP2
          have hw := hA.below hb (Nat.le_refl _)
          obtain ⟨b, o, hAe, hbl, hc⟩ := hw.at_ (by intro e; rw [e] at hlt; cases hlt)
          obtain ⟨c1, c2, c3, c4⟩ := hc j hlt
          clear hd hw hc hP HPL
          rw [ea] at c4
          have ht1 : (⟨l[j].t.toArray⟩ : ByteArray).size = l[j].t.length := rfl
          have ht2 : (⟨l[j].t.toArray⟩ : ByteArray).data.toList = l[j].t := by simp
          generalize (⟨l[j].t.toArray⟩ : ByteArray) = tx at *
          generalize l[j].k = kk at *
          generalize l[j].v = vv at *
          generalize l[j].t = tl at *
          subst ht2
          have hlen : sx.data.toList.length = sx.size := by simp
          rw [hlen] at p2
          rw [← ht1] at p2 p4 p9
          have hss : sx.extract a (a + tx.size) = tx := by
            rw [ext_eta (sx.extract a (a + tx.size)), take_ext, p4, ← ext_eta]
          have hbk : splitR (sx.extract last a).data.toList = ([], 0, 0) := by
            rw [ext_at p1]
            exact splitR_blank p5 (by rw [List.length_take, List.length_drop]; omega)
          have HB := Lib.hid hbk
          have HR := Lib.hid p9
          have HSS := Lib.hid hss
          have e1 : tx.toList.isEmpty = false := by rw [ByteArray.toList_eq]; simpa using p3
          have f1 : decide (a < last) = false := decide_eq_false (by omega)
          have f2 : decide ((sx.size : Int) < (a : Int) + (tx.size : Int)) = false := decide_eq_false (by omega)
          have e4 : ((sx.extract a (a + tx.size)).toList == tx.toList) = true := by rw [hss]; simp
          have f3 : a ≤ sx.size := by omega
          have f4 : (0 : Int) ≤ (a : Int) + (tx.size : Int) := by omega
          have f5 : (a : Int) + (tx.size : Int) ≤ (sx.size : Int) := by omega
          have f6 : (a : Int) ≤ (a : Int) + (tx.size : Int) := by omega
          clear hbk p9 hss p4 p5 ht1 hlen ea d1
          subst hAe
          have M : Mem w2 (wr.alloc (.cells #[.int .i64 kk, .string tx, .int .i64 vv, .int .i64 a] 39)) [(wr.heap.size, 39, #[.int .i64 kk, .string tx, .int .i64 vv, .int .i64 a])] [] :=
            ⟨below_trans hb (below_alloc1 _ _), fun k hk => by obtain rfl := List.mem_singleton.1 hk; exact Blk.new _ _ _, fun r hr => by cases hr⟩
          go_upto_region 12 with fail
          generalize wr.heap.size = g at *
          generalize wr.alloc (.cells #[.int .i64 kk, .string tx, .int .i64 vv, .int .i64 a] 39) = W at *
          by_cases hk2 : kk = 2
          · subst hk2
            have hS1 : IntKind.i64.wrap ((a : Int) + (tx.size : Int)) = (a : Int) + (tx.size : Int) := wrap_in (by omega) (by omega)
            have hS2 : ((a : Int) + (tx.size : Int)).toNat = a + tx.size := by omega
            refine region_st (n := 64) (frame := ?frame1) (fun j => [.val (.fix (.pointer (some ⟨g, 3, none⟩))), .val (.fix (.int .i64 a)), .val (.fix (.int .i64 last)), .val (.fix (.bool false)), .val (.fix (.bool false)), .val (.fix (.pointer (some ⟨g, 3, none⟩))), .val (.fix (.int .i64 a)), .val (.fix (.pointer (some ⟨g, 1, none⟩))), .val (.fix (.string tx)), .val (.fix (.int .i64 tx.size)), .val (.fix (.int .i64 ((a : Int) + (tx.size : Int)))), .val (.fix (.string sx)), .val (.fix (.int .i64 sx.size)), .val (.fix (.bool false)), .val (.fix (.bool false)), .val (.fix (.bool false)), .val (.fix (.pointer (some ⟨g, 1, none⟩))), .val (.fix (.string tx)), .val (.fix (.bool false)), .val (.fix (.bool false)), .val (.fix (.bool false)), .val (.fix (.string sx)), .val (.fix (.pointer (some ⟨g, 3, none⟩))), .val (.fix (.int .i64 a)), .val (.fix (.pointer (some ⟨g, 3, none⟩))), .val (.fix (.int .i64 a)), .val (.fix (.pointer (some ⟨g, 1, none⟩))), .val (.fix (.string tx)), .val (.fix (.int .i64 tx.size)), .val (.fix (.int .i64 ((a : Int) + (tx.size : Int)))), .val (.fix (.string (sx.extract a (a + tx.size)))), .val (.fix (.pointer (some ⟨g, 1, none⟩))), .val (.fix (.string tx)), .val (.fix (.bool false)), .val (.fix (.bool false)), .val (.fix (.bool false)), .val (.fix (.string sx)), .val (.fix (.int .i64 last)), .val (.fix (.pointer (some ⟨g, 3, none⟩))), .val (.fix (.int .i64 a)), .val (.fix (.string (sx.extract last a))), .val (.fix (.bool true)), .val (.fix (.bool false)), .val (.fix (.bool false)), .val (.fix (.bool false)), .val (.fix (.pointer (some ⟨g, 0, none⟩))), .val (.fix (.int .i64 2)), .val (.fix (.bool false)), .val (.fix (.bool false)), .val (.fix (.bool false)), .val (.fix (.pointer (some ⟨g, 0, none⟩))), .val (.fix (.int .i64 2)), .val (.fix (.bool false)), .val (.fix (.bool false)), .val (.fix (.bool false)), .val (.fix (.pointer (some ⟨g, 0, none⟩))), .val (.fix (.int .i64 2)), .val (.fix (.bool false)), .val (.fix (.bool false)), .none, .none, .none, .val (.fix (.bool false)), .val (.fix (.bool false))].getD j .none) [] (by kernel_rfl) (by kernel_rfl) (by kernel_rfl) rfl M (fun _ h => by cases h) (fun _ h => by cases h) ?_ ?_ ?_
            case refine_1 =>
              intro s
              simp only [fr, Act.put, List.append_eq, List.cons_append, List.nil_append, List.setIfInBounds_toArray, List.set_cons_zero, List.set_cons_succ, Nat.reduceAdd]
              rfl
            case refine_2 =>
              refine Steps.cons 0 (j := 1) rfl ?_ (Steps.cons 1 (j := 2) rfl ?_ (Steps.cons 2 (j := 3) rfl ?_ (Steps.cons 3 (j := 4) rfl ?_ (Steps.cons 4 (j := 5) rfl ?_ (Steps.cons 5 (j := 6) rfl ?_ (Steps.cons 6 (j := 7) rfl ?_ (Steps.cons 7 (j := 8) rfl ?_ (Steps.cons 8 (j := 9) rfl ?_ (Steps.cons 9 (j := 10) rfl ?_ (Steps.cons 10 (j := 11) rfl ?_ (Steps.cons 11 (j := 12) rfl ?_ (Steps.cons 12 (j := 13) rfl ?_ (Steps.cons 13 (j := 14) rfl ?_ (Steps.cons 14 (j := 15) rfl ?_ (Steps.cons 15 (j := 16) rfl ?_ (Steps.cons 16 (j := 17) rfl ?_ (Steps.cons 17 (j := 18) rfl ?_ (Steps.cons 18 (j := 19) rfl ?_ (Steps.cons 19 (j := 20) rfl ?_ (Steps.cons 20 (j := 21) rfl ?_ (Steps.cons 21 (j := 22) rfl ?_ (Steps.cons 22 (j := 23) rfl ?_ (Steps.cons 23 (j := 24) rfl ?_ (Steps.cons 24 (j := 25) rfl ?_ (Steps.cons 25 (j := 26) rfl ?_ (Steps.cons 26 (j := 27) rfl ?_ (Steps.cons 27 (j := 28) rfl ?_ (Steps.cons 28 (j := 29) rfl ?_ (Steps.cons 29 (j := 30) rfl ?_ (Steps.cons 30 (j := 31) rfl ?_ (Steps.cons 31 (j := 32) rfl ?_ (Steps.cons 32 (j := 33) rfl ?_ (Steps.cons 33 (j := 34) rfl ?_ (Steps.cons 34 (j := 35) rfl ?_ (Steps.cons 35 (j := 36) rfl ?_ (Steps.cons 36 (j := 37) rfl ?_ (Steps.cons 37 (j := 38) rfl ?_ (Steps.cons 38 (j := 39) rfl ?_ (Steps.cons 39 (j := 40) rfl ?_ (Steps.cons 40 (j := 41) rfl ?_ (Steps.cons 41 (j := 42) rfl ?_ (Steps.cons 42 (j := 43) rfl ?_ (Steps.cons 43 (j := 44) rfl ?_ (Steps.cons 44 (j := 45) rfl ?_ (Steps.cons 45 (j := 46) rfl ?_ (Steps.cons 46 (j := 47) rfl ?_ (Steps.cons 47 (j := 48) rfl ?_ (Steps.cons 48 (j := 49) rfl ?_ (Steps.cons 49 (j := 50) rfl ?_ (Steps.cons 50 (j := 51) rfl ?_ (Steps.cons 51 (j := 52) rfl ?_ (Steps.cons 52 (j := 53) rfl ?_ (Steps.cons 53 (j := 54) rfl ?_ (Steps.cons 54 (j := 55) rfl ?_ (Steps.cons 55 (j := 56) rfl ?_ (Steps.cons 56 (j := 57) rfl ?_ (Steps.cons 57 (j := 58) rfl ?_ (Steps.cons 58 (j := 59) rfl ?_ (Steps.cons 59 (j := 60) rfl ?_ (Steps.cons 60 (j := 61) rfl ?_ (Steps.cons 61 (j := 62) rfl ?_ (Steps.cons 62 (j := 63) rfl ?_ (Steps.cons 63 (j := 64) rfl ?_ Steps.nil)))))))))))))))))))))))))))))))))))))))))))))))))))))))))))))))
              · intro L s w9 hN hU hi hS K hK
                dsimp only at hK ⊢
                simp only [Act.put, List.setIfInBounds_toArray, List.set_cons_zero, List.set_cons_succ] at hK
                go_simp
                exact hK.out _ _ (hS.val rfl (noStore_of rfl) (Below.refl _ _) rfl)
              · intro L s w9 hN hU hi hS K hK
                dsimp only at hK ⊢
                simp only [Act.put, List.setIfInBounds_toArray, List.set_cons_zero, List.set_cons_succ] at hK
                have e0 : s 0 = .pointer (some ⟨g, 3, none⟩) := hS.val_at 0 rfl (by decide) (hN.out 0 rfl)
                simp only [e0] at hK ⊢
                obtain ⟨u1, u2, u3, u4⟩ := (hS.mem.k (i := 0) rfl).four
                go_simp
                exact hK.out _ _ (hS.val rfl (noStore_of rfl) (Below.refl _ _) rfl)
              · intro L s w9 hN hU hi hS K hK
                dsimp only at hK ⊢
                simp only [Act.put, List.setIfInBounds_toArray, List.set_cons_zero, List.set_cons_succ] at hK
                go_simp
                exact hK.out _ _ (hS.val rfl (noStore_of rfl) (Below.refl _ _) rfl)
              · intro L s w9 hN hU hi hS K hK
                dsimp only at hK ⊢
                simp only [Act.put, List.setIfInBounds_toArray, List.set_cons_zero, List.set_cons_succ] at hK
                have e1 : s 1 = .int .i64 a := hS.val_at 1 rfl (by decide) (hN.out 1 rfl)
                simp only [e1] at hK ⊢
                have e2 : s 2 = .int .i64 last := hS.val_at 2 rfl (by decide) (hN.out 2 rfl)
                simp only [e2] at hK ⊢
                go_simp
                exact hK.out _ _ (hS.val rfl (noStore_of rfl) (Below.refl _ _) rfl)
              · intro L s w9 hN hU hi hS K hK
                dsimp only at hK ⊢
                simp only [Act.put, List.setIfInBounds_toArray, List.set_cons_zero, List.set_cons_succ] at hK
                have e3 : s 3 = .bool false := hS.val_at 3 rfl (by decide) (hN.out 3 rfl)
                simp only [e3] at hK ⊢
                go_simp
                exact hK.out _ _ (hS.val rfl (noStore_of rfl) (Below.refl _ _) rfl)
              · intro L s w9 hN hU hi hS K hK
                dsimp only at hK ⊢
                simp only [Act.put, List.setIfInBounds_toArray, List.set_cons_zero, List.set_cons_succ] at hK
                have e4 : s 4 = .bool false := hS.val_at 4 rfl (by decide) (hN.out 4 rfl)
                simp only [e4] at hK ⊢
                go_simp
                exact hK.out _ _ (hS.val rfl (noStore_of rfl) (Below.refl _ _) rfl)
              · intro L s w9 hN hU hi hS K hK
                dsimp only at hK ⊢
                simp only [Act.put, List.setIfInBounds_toArray, List.set_cons_zero, List.set_cons_succ] at hK
                have e5 : s 5 = .pointer (some ⟨g, 3, none⟩) := hS.val_at 5 rfl (by decide) (hN.out 5 rfl)
                simp only [e5] at hK ⊢
                have e4 : s 4 = .bool false := hS.val_at 4 rfl (by decide) (hN.out 4 rfl)
                simp only [e4] at hK ⊢
                obtain ⟨u1, u2, u3, u4⟩ := (hS.mem.k (i := 0) rfl).four
                go_simp
                exact hK.out _ _ (hS.val rfl (noStore_of rfl) (Below.refl _ _) rfl)
              · intro L s w9 hN hU hi hS K hK
                dsimp only at hK ⊢
                simp only [Act.put, List.setIfInBounds_toArray, List.set_cons_zero, List.set_cons_succ] at hK
                have e4 : s 4 = .bool false := hS.val_at 4 rfl (by decide) (hN.out 4 rfl)
                simp only [e4] at hK ⊢
                go_simp
                exact hK.out _ _ (hS.val rfl (noStore_of rfl) (Below.refl _ _) rfl)
              · intro L s w9 hN hU hi hS K hK
                dsimp only at hK ⊢
                simp only [Act.put, List.setIfInBounds_toArray, List.set_cons_zero, List.set_cons_succ] at hK
                have e7 : s 7 = .pointer (some ⟨g, 1, none⟩) := hS.val_at 7 rfl (by decide) (hN.out 7 rfl)
                simp only [e7] at hK ⊢
                have e4 : s 4 = .bool false := hS.val_at 4 rfl (by decide) (hN.out 4 rfl)
                simp only [e4] at hK ⊢
                obtain ⟨u1, u2, u3, u4⟩ := (hS.mem.k (i := 0) rfl).four
                go_simp
                exact hK.out _ _ (hS.val rfl (noStore_of rfl) (Below.refl _ _) rfl)
              · intro L s w9 hN hU hi hS K hK
                dsimp only at hK ⊢
                simp only [Act.put, List.setIfInBounds_toArray, List.set_cons_zero, List.set_cons_succ] at hK
                have e8 : s 8 = .string tx := hS.val_at 8 rfl (by decide) (hN.out 8 rfl)
                simp only [e8] at hK ⊢
                have e4 : s 4 = .bool false := hS.val_at 4 rfl (by decide) (hN.out 4 rfl)
                simp only [e4] at hK ⊢
                go_simp
                exact hK.out _ _ (hS.val rfl (noStore_of rfl) (Below.refl _ _) rfl)
              · intro L s w9 hN hU hi hS K hK
                dsimp only at hK ⊢
                simp only [Act.put, List.setIfInBounds_toArray, List.set_cons_zero, List.set_cons_succ] at hK
                have e6 : s 6 = .int .i64 a := hS.val_at 6 rfl (by decide) (hN.out 6 rfl)
                simp only [e6] at hK ⊢
                have e9 : s 9 = .int .i64 tx.size := hS.val_at 9 rfl (by decide) (hN.out 9 rfl)
                simp only [e9] at hK ⊢
                have e4 : s 4 = .bool false := hS.val_at 4 rfl (by decide) (hN.out 4 rfl)
                simp only [e4] at hK ⊢
                go_simp
                exact hK.out _ _ (hS.val rfl (noStore_of rfl) (Below.refl _ _) rfl)
              · intro L s w9 hN hU hi hS K hK
                dsimp only at hK ⊢
                simp only [Act.put, List.setIfInBounds_toArray, List.set_cons_zero, List.set_cons_succ] at hK
                have e4 : s 4 = .bool false := hS.val_at 4 rfl (by decide) (hN.out 4 rfl)
                simp only [e4] at hK ⊢
                go_simp
                exact hK.out _ _ (hS.val rfl (noStore_of rfl) (Below.refl _ _) rfl)
              · intro L s w9 hN hU hi hS K hK
                dsimp only at hK ⊢
                simp only [Act.put, List.setIfInBounds_toArray, List.set_cons_zero, List.set_cons_succ] at hK
                have e11 : s 11 = .string sx := hS.val_at 11 rfl (by decide) (hN.out 11 rfl)
                simp only [e11] at hK ⊢
                have e4 : s 4 = .bool false := hS.val_at 4 rfl (by decide) (hN.out 4 rfl)
                simp only [e4] at hK ⊢
                go_simp
                exact hK.out _ _ (hS.val rfl (noStore_of rfl) (Below.refl _ _) rfl)
              · intro L s w9 hN hU hi hS K hK
                dsimp only at hK ⊢
                simp only [Act.put, List.setIfInBounds_toArray, List.set_cons_zero, List.set_cons_succ] at hK
                have e10 : s 10 = .int .i64 ((a : Int) + (tx.size : Int)) := hS.val_at 10 rfl (by decide) (hN.out 10 rfl)
                simp only [e10] at hK ⊢
                have e12 : s 12 = .int .i64 sx.size := hS.val_at 12 rfl (by decide) (hN.out 12 rfl)
                simp only [e12] at hK ⊢
                have e4 : s 4 = .bool false := hS.val_at 4 rfl (by decide) (hN.out 4 rfl)
                simp only [e4] at hK ⊢
                go_simp
                exact hK.out _ _ (hS.val rfl (noStore_of rfl) (Below.refl _ _) rfl)
              · intro L s w9 hN hU hi hS K hK
                dsimp only at hK ⊢
                simp only [Act.put, List.setIfInBounds_toArray, List.set_cons_zero, List.set_cons_succ] at hK
                have e4 : s 4 = .bool false := hS.val_at 4 rfl (by decide) (hN.out 4 rfl)
                simp only [e4] at hK ⊢
                have e13 : s 13 = .bool false := hS.val_at 13 rfl (by decide) (hN.out 13 rfl)
                simp only [e13] at hK ⊢
                go_simp
                exact hK.out _ _ (hS.val rfl (noStore_of rfl) (Below.refl _ _) rfl)
              · intro L s w9 hN hU hi hS K hK
                dsimp only at hK ⊢
                simp only [Act.put, List.setIfInBounds_toArray, List.set_cons_zero, List.set_cons_succ] at hK
                have e14 : s 14 = .bool false := hS.val_at 14 rfl (by decide) (hN.out 14 rfl)
                simp only [e14] at hK ⊢
                go_simp
                exact hK.out _ _ (hS.val rfl (noStore_of rfl) (Below.refl _ _) rfl)
              · intro L s w9 hN hU hi hS K hK
                dsimp only at hK ⊢
                simp only [Act.put, List.setIfInBounds_toArray, List.set_cons_zero, List.set_cons_succ] at hK
                have e15 : s 15 = .bool false := hS.val_at 15 rfl (by decide) (hN.out 15 rfl)
                simp only [e15] at hK ⊢
                go_simp
                exact hK.out _ _ (hS.val rfl (noStore_of rfl) (Below.refl _ _) rfl)
              · intro L s w9 hN hU hi hS K hK
                dsimp only at hK ⊢
                simp only [Act.put, List.setIfInBounds_toArray, List.set_cons_zero, List.set_cons_succ] at hK
                have e16 : s 16 = .pointer (some ⟨g, 1, none⟩) := hS.val_at 16 rfl (by decide) (hN.out 16 rfl)
                simp only [e16] at hK ⊢
                have e15 : s 15 = .bool false := hS.val_at 15 rfl (by decide) (hN.out 15 rfl)
                simp only [e15] at hK ⊢
                obtain ⟨u1, u2, u3, u4⟩ := (hS.mem.k (i := 0) rfl).four
                go_simp
                exact hK.out _ _ (hS.val rfl (noStore_of rfl) (Below.refl _ _) rfl)
              · intro L s w9 hN hU hi hS K hK
                dsimp only at hK ⊢
                simp only [Act.put, List.setIfInBounds_toArray, List.set_cons_zero, List.set_cons_succ] at hK
                have e17 : s 17 = .string tx := hS.val_at 17 rfl (by decide) (hN.out 17 rfl)
                simp only [e17] at hK ⊢
                have e15 : s 15 = .bool false := hS.val_at 15 rfl (by decide) (hN.out 15 rfl)
                simp only [e15] at hK ⊢
                go_simp
                exact hK.out _ _ (hS.val rfl (noStore_of rfl) (Below.refl _ _) rfl)
              · intro L s w9 hN hU hi hS K hK
                dsimp only at hK ⊢
                simp only [Act.put, List.setIfInBounds_toArray, List.set_cons_zero, List.set_cons_succ] at hK
                have e15 : s 15 = .bool false := hS.val_at 15 rfl (by decide) (hN.out 15 rfl)
                simp only [e15] at hK ⊢
                have e18 : s 18 = .bool false := hS.val_at 18 rfl (by decide) (hN.out 18 rfl)
                simp only [e18] at hK ⊢
                go_simp
                exact hK.out _ _ (hS.val rfl (noStore_of rfl) (Below.refl _ _) rfl)
              · intro L s w9 hN hU hi hS K hK
                dsimp only at hK ⊢
                simp only [Act.put, List.setIfInBounds_toArray, List.set_cons_zero, List.set_cons_succ] at hK
                have e19 : s 19 = .bool false := hS.val_at 19 rfl (by decide) (hN.out 19 rfl)
                simp only [e19] at hK ⊢
                go_simp
                exact hK.out _ _ (hS.val rfl (noStore_of rfl) (Below.refl _ _) rfl)
              · intro L s w9 hN hU hi hS K hK
                dsimp only at hK ⊢
                simp only [Act.put, List.setIfInBounds_toArray, List.set_cons_zero, List.set_cons_succ] at hK
                have e20 : s 20 = .bool false := hS.val_at 20 rfl (by decide) (hN.out 20 rfl)
                simp only [e20] at hK ⊢
                go_simp
                exact hK.out _ _ (hS.val rfl (noStore_of rfl) (Below.refl _ _) rfl)
              · intro L s w9 hN hU hi hS K hK
                dsimp only at hK ⊢
                simp only [Act.put, List.setIfInBounds_toArray, List.set_cons_zero, List.set_cons_succ] at hK
                have e20 : s 20 = .bool false := hS.val_at 20 rfl (by decide) (hN.out 20 rfl)
                simp only [e20] at hK ⊢
                go_simp
                exact hK.out _ _ (hS.val rfl (noStore_of rfl) (Below.refl _ _) rfl)
              · intro L s w9 hN hU hi hS K hK
                dsimp only at hK ⊢
                simp only [Act.put, List.setIfInBounds_toArray, List.set_cons_zero, List.set_cons_succ] at hK
                have e22 : s 22 = .pointer (some ⟨g, 3, none⟩) := hS.val_at 22 rfl (by decide) (hN.out 22 rfl)
                simp only [e22] at hK ⊢
                have e20 : s 20 = .bool false := hS.val_at 20 rfl (by decide) (hN.out 20 rfl)
                simp only [e20] at hK ⊢
                obtain ⟨u1, u2, u3, u4⟩ := (hS.mem.k (i := 0) rfl).four
                go_simp
                exact hK.out _ _ (hS.val rfl (noStore_of rfl) (Below.refl _ _) rfl)
              · intro L s w9 hN hU hi hS K hK
                dsimp only at hK ⊢
                simp only [Act.put, List.setIfInBounds_toArray, List.set_cons_zero, List.set_cons_succ] at hK
                have e20 : s 20 = .bool false := hS.val_at 20 rfl (by decide) (hN.out 20 rfl)
                simp only [e20] at hK ⊢
                go_simp
                exact hK.out _ _ (hS.val rfl (noStore_of rfl) (Below.refl _ _) rfl)
              · intro L s w9 hN hU hi hS K hK
                dsimp only at hK ⊢
                simp only [Act.put, List.setIfInBounds_toArray, List.set_cons_zero, List.set_cons_succ] at hK
                have e24 : s 24 = .pointer (some ⟨g, 3, none⟩) := hS.val_at 24 rfl (by decide) (hN.out 24 rfl)
                simp only [e24] at hK ⊢
                have e20 : s 20 = .bool false := hS.val_at 20 rfl (by decide) (hN.out 20 rfl)
                simp only [e20] at hK ⊢
                obtain ⟨u1, u2, u3, u4⟩ := (hS.mem.k (i := 0) rfl).four
                go_simp
                exact hK.out _ _ (hS.val rfl (noStore_of rfl) (Below.refl _ _) rfl)
              · intro L s w9 hN hU hi hS K hK
                dsimp only at hK ⊢
                simp only [Act.put, List.setIfInBounds_toArray, List.set_cons_zero, List.set_cons_succ] at hK
                have e20 : s 20 = .bool false := hS.val_at 20 rfl (by decide) (hN.out 20 rfl)
                simp only [e20] at hK ⊢
                go_simp
                exact hK.out _ _ (hS.val rfl (noStore_of rfl) (Below.refl _ _) rfl)
              · intro L s w9 hN hU hi hS K hK
                dsimp only at hK ⊢
                simp only [Act.put, List.setIfInBounds_toArray, List.set_cons_zero, List.set_cons_succ] at hK
                have e26 : s 26 = .pointer (some ⟨g, 1, none⟩) := hS.val_at 26 rfl (by decide) (hN.out 26 rfl)
                simp only [e26] at hK ⊢
                have e20 : s 20 = .bool false := hS.val_at 20 rfl (by decide) (hN.out 20 rfl)
                simp only [e20] at hK ⊢
                obtain ⟨u1, u2, u3, u4⟩ := (hS.mem.k (i := 0) rfl).four
                go_simp
                exact hK.out _ _ (hS.val rfl (noStore_of rfl) (Below.refl _ _) rfl)
              · intro L s w9 hN hU hi hS K hK
                dsimp only at hK ⊢
                simp only [Act.put, List.setIfInBounds_toArray, List.set_cons_zero, List.set_cons_succ] at hK
                have e27 : s 27 = .string tx := hS.val_at 27 rfl (by decide) (hN.out 27 rfl)
                simp only [e27] at hK ⊢
                have e20 : s 20 = .bool false := hS.val_at 20 rfl (by decide) (hN.out 20 rfl)
                simp only [e20] at hK ⊢
                go_simp
                exact hK.out _ _ (hS.val rfl (noStore_of rfl) (Below.refl _ _) rfl)
              · intro L s w9 hN hU hi hS K hK
                dsimp only at hK ⊢
                simp only [Act.put, List.setIfInBounds_toArray, List.set_cons_zero, List.set_cons_succ] at hK
                have e25 : s 25 = .int .i64 a := hS.val_at 25 rfl (by decide) (hN.out 25 rfl)
                simp only [e25] at hK ⊢
                have e28 : s 28 = .int .i64 tx.size := hS.val_at 28 rfl (by decide) (hN.out 28 rfl)
                simp only [e28] at hK ⊢
                have e20 : s 20 = .bool false := hS.val_at 20 rfl (by decide) (hN.out 20 rfl)
                simp only [e20] at hK ⊢
                go_simp
                exact hK.out _ _ (hS.val rfl (noStore_of rfl) (Below.refl _ _) rfl)
              · intro L s w9 hN hU hi hS K hK
                dsimp only at hK ⊢
                simp only [Act.put, List.setIfInBounds_toArray, List.set_cons_zero, List.set_cons_succ] at hK
                have e21 : s 21 = .string sx := hS.val_at 21 rfl (by decide) (hN.out 21 rfl)
                simp only [e21] at hK ⊢
                have e23 : s 23 = .int .i64 a := hS.val_at 23 rfl (by decide) (hN.out 23 rfl)
                simp only [e23] at hK ⊢
                have e29 : s 29 = .int .i64 ((a : Int) + (tx.size : Int)) := hS.val_at 29 rfl (by decide) (hN.out 29 rfl)
                simp only [e29] at hK ⊢
                have e20 : s 20 = .bool false := hS.val_at 20 rfl (by decide) (hN.out 20 rfl)
                simp only [e20] at hK ⊢
                go_simp
                exact hK.out _ _ (hS.val rfl (noStore_of rfl) (Below.refl _ _) rfl)
              · intro L s w9 hN hU hi hS K hK
                dsimp only at hK ⊢
                simp only [Act.put, List.setIfInBounds_toArray, List.set_cons_zero, List.set_cons_succ] at hK
                have e20 : s 20 = .bool false := hS.val_at 20 rfl (by decide) (hN.out 20 rfl)
                simp only [e20] at hK ⊢
                go_simp
                exact hK.out _ _ (hS.val rfl (noStore_of rfl) (Below.refl _ _) rfl)
              · intro L s w9 hN hU hi hS K hK
                dsimp only at hK ⊢
                simp only [Act.put, List.setIfInBounds_toArray, List.set_cons_zero, List.set_cons_succ] at hK
                have e31 : s 31 = .pointer (some ⟨g, 1, none⟩) := hS.val_at 31 rfl (by decide) (hN.out 31 rfl)
                simp only [e31] at hK ⊢
                have e20 : s 20 = .bool false := hS.val_at 20 rfl (by decide) (hN.out 20 rfl)
                simp only [e20] at hK ⊢
                obtain ⟨u1, u2, u3, u4⟩ := (hS.mem.k (i := 0) rfl).four
                go_simp
                exact hK.out _ _ (hS.val rfl (noStore_of rfl) (Below.refl _ _) rfl)
              · intro L s w9 hN hU hi hS K hK
                dsimp only at hK ⊢
                simp only [Act.put, List.setIfInBounds_toArray, List.set_cons_zero, List.set_cons_succ] at hK
                have e30 : s 30 = .string (sx.extract a (a + tx.size)) := hS.val_at 30 rfl (by decide) (hN.out 30 rfl)
                simp only [e30] at hK ⊢
                have e32 : s 32 = .string tx := hS.val_at 32 rfl (by decide) (hN.out 32 rfl)
                simp only [e32] at hK ⊢
                have e20 : s 20 = .bool false := hS.val_at 20 rfl (by decide) (hN.out 20 rfl)
                simp only [e20] at hK ⊢
                go_simp
                exact hK.out _ _ (hS.val rfl (noStore_of rfl) (Below.refl _ _) rfl)
              · intro L s w9 hN hU hi hS K hK
                dsimp only at hK ⊢
                simp only [Act.put, List.setIfInBounds_toArray, List.set_cons_zero, List.set_cons_succ] at hK
                have e20 : s 20 = .bool false := hS.val_at 20 rfl (by decide) (hN.out 20 rfl)
                simp only [e20] at hK ⊢
                have e33 : s 33 = .bool false := hS.val_at 33 rfl (by decide) (hN.out 33 rfl)
                simp only [e33] at hK ⊢
                go_simp
                exact hK.out _ _ (hS.val rfl (noStore_of rfl) (Below.refl _ _) rfl)
              · intro L s w9 hN hU hi hS K hK
                dsimp only at hK ⊢
                simp only [Act.put, List.setIfInBounds_toArray, List.set_cons_zero, List.set_cons_succ] at hK
                have e34 : s 34 = .bool false := hS.val_at 34 rfl (by decide) (hN.out 34 rfl)
                simp only [e34] at hK ⊢
                go_simp
                exact hK.out _ _ (hS.val rfl (noStore_of rfl) (Below.refl _ _) rfl)
              · intro L s w9 hN hU hi hS K hK
                dsimp only at hK ⊢
                simp only [Act.put, List.setIfInBounds_toArray, List.set_cons_zero, List.set_cons_succ] at hK
                have e35 : s 35 = .bool false := hS.val_at 35 rfl (by decide) (hN.out 35 rfl)
                simp only [e35] at hK ⊢
                go_simp
                exact hK.out _ _ (hS.val rfl (noStore_of rfl) (Below.refl _ _) rfl)
              · intro L s w9 hN hU hi hS K hK
                dsimp only at hK ⊢
                simp only [Act.put, List.setIfInBounds_toArray, List.set_cons_zero, List.set_cons_succ] at hK
                have e35 : s 35 = .bool false := hS.val_at 35 rfl (by decide) (hN.out 35 rfl)
                simp only [e35] at hK ⊢
                go_simp
                exact hK.out _ _ (hS.val rfl (noStore_of rfl) (Below.refl _ _) rfl)
              · intro L s w9 hN hU hi hS K hK
                dsimp only at hK ⊢
                simp only [Act.put, List.setIfInBounds_toArray, List.set_cons_zero, List.set_cons_succ] at hK
                have e35 : s 35 = .bool false := hS.val_at 35 rfl (by decide) (hN.out 35 rfl)
                simp only [e35] at hK ⊢
                go_simp
                exact hK.out _ _ (hS.val rfl (noStore_of rfl) (Below.refl _ _) rfl)
              · intro L s w9 hN hU hi hS K hK
                dsimp only at hK ⊢
                simp only [Act.put, List.setIfInBounds_toArray, List.set_cons_zero, List.set_cons_succ] at hK
                have e38 : s 38 = .pointer (some ⟨g, 3, none⟩) := hS.val_at 38 rfl (by decide) (hN.out 38 rfl)
                simp only [e38] at hK ⊢
                have e35 : s 35 = .bool false := hS.val_at 35 rfl (by decide) (hN.out 35 rfl)
                simp only [e35] at hK ⊢
                obtain ⟨u1, u2, u3, u4⟩ := (hS.mem.k (i := 0) rfl).four
                go_simp
                exact hK.out _ _ (hS.val rfl (noStore_of rfl) (Below.refl _ _) rfl)
              · intro L s w9 hN hU hi hS K hK
                dsimp only at hK ⊢
                simp only [Act.put, List.setIfInBounds_toArray, List.set_cons_zero, List.set_cons_succ] at hK
                have e36 : s 36 = .string sx := hS.val_at 36 rfl (by decide) (hN.out 36 rfl)
                simp only [e36] at hK ⊢
                have e37 : s 37 = .int .i64 last := hS.val_at 37 rfl (by decide) (hN.out 37 rfl)
                simp only [e37] at hK ⊢
                have e39 : s 39 = .int .i64 a := hS.val_at 39 rfl (by decide) (hN.out 39 rfl)
                simp only [e39] at hK ⊢
                have e35 : s 35 = .bool false := hS.val_at 35 rfl (by decide) (hN.out 35 rfl)
                simp only [e35] at hK ⊢
                go_simp
                exact hK.out _ _ (hS.val rfl (noStore_of rfl) (Below.refl _ _) rfl)
              · intro L s w9 hN hU hi hS K hK
                dsimp only at hK ⊢
                simp only [Act.put, List.setIfInBounds_toArray, List.set_cons_zero, List.set_cons_succ] at hK
                have e40 : s 40 = .string (sx.extract last a) := hS.val_at 40 rfl (by decide) (hN.out 40 rfl)
                simp only [e40] at hK ⊢
                have e35 : s 35 = .bool false := hS.val_at 35 rfl (by decide) (hN.out 35 rfl)
                simp only [e35] at hK ⊢
                go_simp
                go_at_call 15
                refine (blankS_yes _ _ HB.out).mono ?_
                rintro e9 w10 ⟨rfl, q⟩
                exact hK.out _ _ (hS.val rfl (noStore_of rfl) q rfl)
              · intro L s w9 hN hU hi hS K hK
                dsimp only at hK ⊢
                simp only [Act.put, List.setIfInBounds_toArray, List.set_cons_zero, List.set_cons_succ] at hK
                have e41 : s 41 = .bool true := hS.val_at 41 rfl (by decide) (hN.out 41 rfl)
                simp only [e41] at hK ⊢
                have e35 : s 35 = .bool false := hS.val_at 35 rfl (by decide) (hN.out 35 rfl)
                simp only [e35] at hK ⊢
                go_simp
                exact hK.out _ _ (hS.val rfl (noStore_of rfl) (Below.refl _ _) rfl)
              · intro L s w9 hN hU hi hS K hK
                dsimp only at hK ⊢
                simp only [Act.put, List.setIfInBounds_toArray, List.set_cons_zero, List.set_cons_succ] at hK
                have e35 : s 35 = .bool false := hS.val_at 35 rfl (by decide) (hN.out 35 rfl)
                simp only [e35] at hK ⊢
                have e42 : s 42 = .bool false := hS.val_at 42 rfl (by decide) (hN.out 42 rfl)
                simp only [e42] at hK ⊢
                go_simp
                exact hK.out _ _ (hS.val rfl (noStore_of rfl) (Below.refl _ _) rfl)
              · intro L s w9 hN hU hi hS K hK
                dsimp only at hK ⊢
                simp only [Act.put, List.setIfInBounds_toArray, List.set_cons_zero, List.set_cons_succ] at hK
                have e43 : s 43 = .bool false := hS.val_at 43 rfl (by decide) (hN.out 43 rfl)
                simp only [e43] at hK ⊢
                go_simp
                exact hK.out _ _ (hS.val rfl (noStore_of rfl) (Below.refl _ _) rfl)
              · intro L s w9 hN hU hi hS K hK
                dsimp only at hK ⊢
                simp only [Act.put, List.setIfInBounds_toArray, List.set_cons_zero, List.set_cons_succ] at hK
                have e44 : s 44 = .bool false := hS.val_at 44 rfl (by decide) (hN.out 44 rfl)
                simp only [e44] at hK ⊢
                go_simp
                exact hK.out _ _ (hS.val rfl (noStore_of rfl) (Below.refl _ _) rfl)
              · intro L s w9 hN hU hi hS K hK
                dsimp only at hK ⊢
                simp only [Act.put, List.setIfInBounds_toArray, List.set_cons_zero, List.set_cons_succ] at hK
                have e45 : s 45 = .pointer (some ⟨g, 0, none⟩) := hS.val_at 45 rfl (by decide) (hN.out 45 rfl)
                simp only [e45] at hK ⊢
                have e44 : s 44 = .bool false := hS.val_at 44 rfl (by decide) (hN.out 44 rfl)
                simp only [e44] at hK ⊢
                obtain ⟨u1, u2, u3, u4⟩ := (hS.mem.k (i := 0) rfl).four
                go_simp
                exact hK.out _ _ (hS.val rfl (noStore_of rfl) (Below.refl _ _) rfl)
              · intro L s w9 hN hU hi hS K hK
                dsimp only at hK ⊢
                simp only [Act.put, List.setIfInBounds_toArray, List.set_cons_zero, List.set_cons_succ] at hK
                have e46 : s 46 = .int .i64 2 := hS.val_at 46 rfl (by decide) (hN.out 46 rfl)
                simp only [e46] at hK ⊢
                have e44 : s 44 = .bool false := hS.val_at 44 rfl (by decide) (hN.out 44 rfl)
                simp only [e44] at hK ⊢
                go_simp
                exact hK.out _ _ (hS.val rfl (noStore_of rfl) (Below.refl _ _) rfl)
              · intro L s w9 hN hU hi hS K hK
                dsimp only at hK ⊢
                simp only [Act.put, List.setIfInBounds_toArray, List.set_cons_zero, List.set_cons_succ] at hK
                have e44 : s 44 = .bool false := hS.val_at 44 rfl (by decide) (hN.out 44 rfl)
                simp only [e44] at hK ⊢
                have e47 : s 47 = .bool false := hS.val_at 47 rfl (by decide) (hN.out 47 rfl)
                simp only [e47] at hK ⊢
                go_simp
                exact hK.out _ _ (hS.val rfl (noStore_of rfl) (Below.refl _ _) rfl)
              · intro L s w9 hN hU hi hS K hK
                dsimp only at hK ⊢
                simp only [Act.put, List.setIfInBounds_toArray, List.set_cons_zero, List.set_cons_succ] at hK
                have e48 : s 48 = .bool false := hS.val_at 48 rfl (by decide) (hN.out 48 rfl)
                simp only [e48] at hK ⊢
                go_simp
                exact hK.out _ _ (hS.val rfl (noStore_of rfl) (Below.refl _ _) rfl)
              · intro L s w9 hN hU hi hS K hK
                dsimp only at hK ⊢
                simp only [Act.put, List.setIfInBounds_toArray, List.set_cons_zero, List.set_cons_succ] at hK
                have e49 : s 49 = .bool false := hS.val_at 49 rfl (by decide) (hN.out 49 rfl)
                simp only [e49] at hK ⊢
                go_simp
                exact hK.out _ _ (hS.val rfl (noStore_of rfl) (Below.refl _ _) rfl)
              · intro L s w9 hN hU hi hS K hK
                dsimp only at hK ⊢
                simp only [Act.put, List.setIfInBounds_toArray, List.set_cons_zero, List.set_cons_succ] at hK
                have e50 : s 50 = .pointer (some ⟨g, 0, none⟩) := hS.val_at 50 rfl (by decide) (hN.out 50 rfl)
                simp only [e50] at hK ⊢
                have e49 : s 49 = .bool false := hS.val_at 49 rfl (by decide) (hN.out 49 rfl)
                simp only [e49] at hK ⊢
                obtain ⟨u1, u2, u3, u4⟩ := (hS.mem.k (i := 0) rfl).four
                go_simp
                exact hK.out _ _ (hS.val rfl (noStore_of rfl) (Below.refl _ _) rfl)
              · intro L s w9 hN hU hi hS K hK
                dsimp only at hK ⊢
                simp only [Act.put, List.setIfInBounds_toArray, List.set_cons_zero, List.set_cons_succ] at hK
                have e51 : s 51 = .int .i64 2 := hS.val_at 51 rfl (by decide) (hN.out 51 rfl)
                simp only [e51] at hK ⊢
                have e49 : s 49 = .bool false := hS.val_at 49 rfl (by decide) (hN.out 49 rfl)
                simp only [e49] at hK ⊢
                go_simp
                exact hK.out _ _ (hS.val rfl (noStore_of rfl) (Below.refl _ _) rfl)
              · intro L s w9 hN hU hi hS K hK
                dsimp only at hK ⊢
                simp only [Act.put, List.setIfInBounds_toArray, List.set_cons_zero, List.set_cons_succ] at hK
                have e49 : s 49 = .bool false := hS.val_at 49 rfl (by decide) (hN.out 49 rfl)
                simp only [e49] at hK ⊢
                have e52 : s 52 = .bool false := hS.val_at 52 rfl (by decide) (hN.out 52 rfl)
                simp only [e52] at hK ⊢
                go_simp
                exact hK.out _ _ (hS.val rfl (noStore_of rfl) (Below.refl _ _) rfl)
              · intro L s w9 hN hU hi hS K hK
                dsimp only at hK ⊢
                simp only [Act.put, List.setIfInBounds_toArray, List.set_cons_zero, List.set_cons_succ] at hK
                have e53 : s 53 = .bool false := hS.val_at 53 rfl (by decide) (hN.out 53 rfl)
                simp only [e53] at hK ⊢
                go_simp
                exact hK.out _ _ (hS.val rfl (noStore_of rfl) (Below.refl _ _) rfl)
              · intro L s w9 hN hU hi hS K hK
                dsimp only at hK ⊢
                simp only [Act.put, List.setIfInBounds_toArray, List.set_cons_zero, List.set_cons_succ] at hK
                have e54 : s 54 = .bool false := hS.val_at 54 rfl (by decide) (hN.out 54 rfl)
                simp only [e54] at hK ⊢
                go_simp
                exact hK.out _ _ (hS.val rfl (noStore_of rfl) (Below.refl _ _) rfl)
              · intro L s w9 hN hU hi hS K hK
                dsimp only at hK ⊢
                simp only [Act.put, List.setIfInBounds_toArray, List.set_cons_zero, List.set_cons_succ] at hK
                have e55 : s 55 = .pointer (some ⟨g, 0, none⟩) := hS.val_at 55 rfl (by decide) (hN.out 55 rfl)
                simp only [e55] at hK ⊢
                have e54 : s 54 = .bool false := hS.val_at 54 rfl (by decide) (hN.out 54 rfl)
                simp only [e54] at hK ⊢
                obtain ⟨u1, u2, u3, u4⟩ := (hS.mem.k (i := 0) rfl).four
                go_simp
                exact hK.out _ _ (hS.val rfl (noStore_of rfl) (Below.refl _ _) rfl)
              · intro L s w9 hN hU hi hS K hK
                dsimp only at hK ⊢
                simp only [Act.put, List.setIfInBounds_toArray, List.set_cons_zero, List.set_cons_succ] at hK
                have e56 : s 56 = .int .i64 2 := hS.val_at 56 rfl (by decide) (hN.out 56 rfl)
                simp only [e56] at hK ⊢
                have e54 : s 54 = .bool false := hS.val_at 54 rfl (by decide) (hN.out 54 rfl)
                simp only [e54] at hK ⊢
                go_simp
                exact hK.out _ _ (hS.val rfl (noStore_of rfl) (Below.refl _ _) rfl)
              · intro L s w9 hN hU hi hS K hK
                dsimp only at hK ⊢
                simp only [Act.put, List.setIfInBounds_toArray, List.set_cons_zero, List.set_cons_succ] at hK
                have e57 : s 57 = .bool false := hS.val_at 57 rfl (by decide) (hN.out 57 rfl)
                simp only [e57] at hK ⊢
                have e54 : s 54 = .bool false := hS.val_at 54 rfl (by decide) (hN.out 54 rfl)
                simp only [e54] at hK ⊢
                go_simp
                exact hK.out _ _ (hS.val rfl (noStore_of rfl) (Below.refl _ _) rfl)
              · intro L s w9 hN hU hi hS K hK
                dsimp only at hK ⊢
                simp only [Act.put, List.setIfInBounds_toArray, List.set_cons_zero, List.set_cons_succ] at hK
                have e58 : s 58 = .bool false := hS.val_at 58 rfl (by decide) (hN.out 58 rfl)
                simp only [e58] at hK ⊢
                go_simp
                exact hK.out undef _ (hS.skip rfl (noStore_of rfl) (Below.refl _ _))
              · intro L s w9 hN hU hi hS K hK
                dsimp only at hK ⊢
                simp only [Act.put, List.setIfInBounds_toArray, List.set_cons_zero, List.set_cons_succ] at hK
                have e58 : s 58 = .bool false := hS.val_at 58 rfl (by decide) (hN.out 58 rfl)
                simp only [e58] at hK ⊢
                go_simp
                exact hK.out undef _ (hS.skip rfl (noStore_of rfl) (Below.refl _ _))
              · intro L s w9 hN hU hi hS K hK
                dsimp only at hK ⊢
                simp only [Act.put, List.setIfInBounds_toArray, List.set_cons_zero, List.set_cons_succ] at hK
                have e58 : s 58 = .bool false := hS.val_at 58 rfl (by decide) (hN.out 58 rfl)
                simp only [e58] at hK ⊢
                go_simp
                exact hK.out undef _ (hS.skip rfl (noStore_of rfl) (Below.refl _ _))
              · intro L s w9 hN hU hi hS K hK
                dsimp only at hK ⊢
                simp only [Act.put, List.setIfInBounds_toArray, List.set_cons_zero, List.set_cons_succ] at hK
                have e58 : s 58 = .bool false := hS.val_at 58 rfl (by decide) (hN.out 58 rfl)
                simp only [e58] at hK ⊢
                have e54 : s 54 = .bool false := hS.val_at 54 rfl (by decide) (hN.out 54 rfl)
                simp only [e54] at hK ⊢
                go_simp
                exact hK.out _ _ (hS.val rfl (noStore_of rfl) (Below.refl _ _) rfl)
              · intro L s w9 hN hU hi hS K hK
                dsimp only at hK ⊢
                simp only [Act.put, List.setIfInBounds_toArray, List.set_cons_zero, List.set_cons_succ] at hK
                have e54 : s 54 = .bool false := hS.val_at 54 rfl (by decide) (hN.out 54 rfl)
                simp only [e54] at hK ⊢
                have e62 : s 62 = .bool false := hS.val_at 62 rfl (by decide) (hN.out 62 rfl)
                simp only [e62] at hK ⊢
                go_simp
                exact hK.out _ _ (hS.val rfl (noStore_of rfl) (Below.refl _ _) rfl)
            intro L s w9 hall hS
            have eL : s 63 = .bool false := hS.val_at 63 rfl (by decide) (hall 63 (by decide))
            obtain ⟨u1, u2, u3, u4⟩ := (hS.mem.k (i := 0) rfl).four
            clear hS1 hS2
            go_wp2_with fail
            go_roundg (l.length - (j + 1))
            case measure => omega
            case rel => exact ⟨j + 1, a + tx.size, rfl, by omega, by simp, by simp, HR, hS.mem.bel⟩
          · have vz := p8 hk2
            subst vz
            have hk3 : (kk != 2) = true := by simpa using hk2
            have hk4 : decide (kk < 1) = false := decide_eq_false (by omega)
            have hk5 : decide (3 < kk) = false := decide_eq_false (by omega)
            have hS1 : IntKind.i64.wrap ((a : Int) + (tx.size : Int)) = (a : Int) + (tx.size : Int) := wrap_in (by omega) (by omega)
            have hS2 : ((a : Int) + (tx.size : Int)).toNat = a + tx.size := by omega
            refine region_st (n := 64) (frame := ?frame2) (fun j => [.val (.fix (.pointer (some ⟨g, 3, none⟩))), .val (.fix (.int .i64 a)), .val (.fix (.int .i64 last)), .val (.fix (.bool false)), .val (.fix (.bool false)), .val (.fix (.pointer (some ⟨g, 3, none⟩))), .val (.fix (.int .i64 a)), .val (.fix (.pointer (some ⟨g, 1, none⟩))), .val (.fix (.string tx)), .val (.fix (.int .i64 tx.size)), .val (.fix (.int .i64 ((a : Int) + (tx.size : Int)))), .val (.fix (.string sx)), .val (.fix (.int .i64 sx.size)), .val (.fix (.bool false)), .val (.fix (.bool false)), .val (.fix (.bool false)), .val (.fix (.pointer (some ⟨g, 1, none⟩))), .val (.fix (.string tx)), .val (.fix (.bool false)), .val (.fix (.bool false)), .val (.fix (.bool false)), .val (.fix (.string sx)), .val (.fix (.pointer (some ⟨g, 3, none⟩))), .val (.fix (.int .i64 a)), .val (.fix (.pointer (some ⟨g, 3, none⟩))), .val (.fix (.int .i64 a)), .val (.fix (.pointer (some ⟨g, 1, none⟩))), .val (.fix (.string tx)), .val (.fix (.int .i64 tx.size)), .val (.fix (.int .i64 ((a : Int) + (tx.size : Int)))), .val (.fix (.string (sx.extract a (a + tx.size)))), .val (.fix (.pointer (some ⟨g, 1, none⟩))), .val (.fix (.string tx)), .val (.fix (.bool false)), .val (.fix (.bool false)), .val (.fix (.bool false)), .val (.fix (.string sx)), .val (.fix (.int .i64 last)), .val (.fix (.pointer (some ⟨g, 3, none⟩))), .val (.fix (.int .i64 a)), .val (.fix (.string (sx.extract last a))), .val (.fix (.bool true)), .val (.fix (.bool false)), .val (.fix (.bool false)), .val (.fix (.bool false)), .val (.fix (.pointer (some ⟨g, 0, none⟩))), .val (.fix (.int .i64 kk)), .val (.fix (.bool false)), .val (.fix (.bool false)), .val (.fix (.bool false)), .val (.fix (.pointer (some ⟨g, 0, none⟩))), .val (.fix (.int .i64 kk)), .val (.fix (.bool false)), .val (.fix (.bool false)), .val (.fix (.bool false)), .val (.fix (.pointer (some ⟨g, 0, none⟩))), .val (.fix (.int .i64 kk)), .val (.fix (.bool true)), .val (.fix (.bool true)), .val (.fix (.pointer (some ⟨g, 2, none⟩))), .val (.fix (.int .i64 0)), .val (.fix (.bool false)), .val (.fix (.bool false)), .val (.fix (.bool false))].getD j .none) [] (by kernel_rfl) (by kernel_rfl) (by kernel_rfl) rfl M (fun _ h => by cases h) (fun _ h => by cases h) ?_ ?_ ?_
            case refine_1 =>
              intro s
              simp only [fr, Act.put, List.append_eq, List.cons_append, List.nil_append, List.setIfInBounds_toArray, List.set_cons_zero, List.set_cons_succ, Nat.reduceAdd]
              rfl
            case refine_2 =>
              refine Steps.cons 0 (j := 1) rfl ?_ (Steps.cons 1 (j := 2) rfl ?_ (Steps.cons 2 (j := 3) rfl ?_ (Steps.cons 3 (j := 4) rfl ?_ (Steps.cons 4 (j := 5) rfl ?_ (Steps.cons 5 (j := 6) rfl ?_ (Steps.cons 6 (j := 7) rfl ?_ (Steps.cons 7 (j := 8) rfl ?_ (Steps.cons 8 (j := 9) rfl ?_ (Steps.cons 9 (j := 10) rfl ?_ (Steps.cons 10 (j := 11) rfl ?_ (Steps.cons 11 (j := 12) rfl ?_ (Steps.cons 12 (j := 13) rfl ?_ (Steps.cons 13 (j := 14) rfl ?_ (Steps.cons 14 (j := 15) rfl ?_ (Steps.cons 15 (j := 16) rfl ?_ (Steps.cons 16 (j := 17) rfl ?_ (Steps.cons 17 (j := 18) rfl ?_ (Steps.cons 18 (j := 19) rfl ?_ (Steps.cons 19 (j := 20) rfl ?_ (Steps.cons 20 (j := 21) rfl ?_ (Steps.cons 21 (j := 22) rfl ?_ (Steps.cons 22 (j := 23) rfl ?_ (Steps.cons 23 (j := 24) rfl ?_ (Steps.cons 24 (j := 25) rfl ?_ (Steps.cons 25 (j := 26) rfl ?_ (Steps.cons 26 (j := 27) rfl ?_ (Steps.cons 27 (j := 28) rfl ?_ (Steps.cons 28 (j := 29) rfl ?_ (Steps.cons 29 (j := 30) rfl ?_ (Steps.cons 30 (j := 31) rfl ?_ (Steps.cons 31 (j := 32) rfl ?_ (Steps.cons 32 (j := 33) rfl ?_ (Steps.cons 33 (j := 34) rfl ?_ (Steps.cons 34 (j := 35) rfl ?_ (Steps.cons 35 (j := 36) rfl ?_ (Steps.cons 36 (j := 37) rfl ?_ (Steps.cons 37 (j := 38) rfl ?_ (Steps.cons 38 (j := 39) rfl ?_ (Steps.cons 39 (j := 40) rfl ?_ (Steps.cons 40 (j := 41) rfl ?_ (Steps.cons 41 (j := 42) rfl ?_ (Steps.cons 42 (j := 43) rfl ?_ (Steps.cons 43 (j := 44) rfl ?_ (Steps.cons 44 (j := 45) rfl ?_ (Steps.cons 45 (j := 46) rfl ?_ (Steps.cons 46 (j := 47) rfl ?_ (Steps.cons 47 (j := 48) rfl ?_ (Steps.cons 48 (j := 49) rfl ?_ (Steps.cons 49 (j := 50) rfl ?_ (Steps.cons 50 (j := 51) rfl ?_ (Steps.cons 51 (j := 52) rfl ?_ (Steps.cons 52 (j := 53) rfl ?_ (Steps.cons 53 (j := 54) rfl ?_ (Steps.cons 54 (j := 55) rfl ?_ (Steps.cons 55 (j := 56) rfl ?_ (Steps.cons 56 (j := 57) rfl ?_ (Steps.cons 57 (j := 58) rfl ?_ (Steps.cons 58 (j := 59) rfl ?_ (Steps.cons 59 (j := 60) rfl ?_ (Steps.cons 60 (j := 61) rfl ?_ (Steps.cons 61 (j := 62) rfl ?_ (Steps.cons 62 (j := 63) rfl ?_ (Steps.cons 63 (j := 64) rfl ?_ Steps.nil)))))))))))))))))))))))))))))))))))))))))))))))))))))))))))))))
              · intro L s w9 hN hU hi hS K hK
                dsimp only at hK ⊢
                simp only [Act.put, List.setIfInBounds_toArray, List.set_cons_zero, List.set_cons_succ] at hK
                go_simp
                exact hK.out _ _ (hS.val rfl (noStore_of rfl) (Below.refl _ _) rfl)
              · intro L s w9 hN hU hi hS K hK
                dsimp only at hK ⊢
                simp only [Act.put, List.setIfInBounds_toArray, List.set_cons_zero, List.set_cons_succ] at hK
                have e0 : s 0 = .pointer (some ⟨g, 3, none⟩) := hS.val_at 0 rfl (by decide) (hN.out 0 rfl)
                simp only [e0] at hK ⊢
                obtain ⟨u1, u2, u3, u4⟩ := (hS.mem.k (i := 0) rfl).four
                go_simp
                exact hK.out _ _ (hS.val rfl (noStore_of rfl) (Below.refl _ _) rfl)
              · intro L s w9 hN hU hi hS K hK
                dsimp only at hK ⊢
                simp only [Act.put, List.setIfInBounds_toArray, List.set_cons_zero, List.set_cons_succ] at hK
                go_simp
                exact hK.out _ _ (hS.val rfl (noStore_of rfl) (Below.refl _ _) rfl)
              · intro L s w9 hN hU hi hS K hK
                dsimp only at hK ⊢
                simp only [Act.put, List.setIfInBounds_toArray, List.set_cons_zero, List.set_cons_succ] at hK
                have e1 : s 1 = .int .i64 a := hS.val_at 1 rfl (by decide) (hN.out 1 rfl)
                simp only [e1] at hK ⊢
                have e2 : s 2 = .int .i64 last := hS.val_at 2 rfl (by decide) (hN.out 2 rfl)
                simp only [e2] at hK ⊢
                go_simp
                exact hK.out _ _ (hS.val rfl (noStore_of rfl) (Below.refl _ _) rfl)
              · intro L s w9 hN hU hi hS K hK
                dsimp only at hK ⊢
                simp only [Act.put, List.setIfInBounds_toArray, List.set_cons_zero, List.set_cons_succ] at hK
                have e3 : s 3 = .bool false := hS.val_at 3 rfl (by decide) (hN.out 3 rfl)
                simp only [e3] at hK ⊢
                go_simp
                exact hK.out _ _ (hS.val rfl (noStore_of rfl) (Below.refl _ _) rfl)
              · intro L s w9 hN hU hi hS K hK
                dsimp only at hK ⊢
                simp only [Act.put, List.setIfInBounds_toArray, List.set_cons_zero, List.set_cons_succ] at hK
                have e4 : s 4 = .bool false := hS.val_at 4 rfl (by decide) (hN.out 4 rfl)
                simp only [e4] at hK ⊢
                go_simp
                exact hK.out _ _ (hS.val rfl (noStore_of rfl) (Below.refl _ _) rfl)
              · intro L s w9 hN hU hi hS K hK
                dsimp only at hK ⊢
                simp only [Act.put, List.setIfInBounds_toArray, List.set_cons_zero, List.set_cons_succ] at hK
                have e5 : s 5 = .pointer (some ⟨g, 3, none⟩) := hS.val_at 5 rfl (by decide) (hN.out 5 rfl)
                simp only [e5] at hK ⊢
                have e4 : s 4 = .bool false := hS.val_at 4 rfl (by decide) (hN.out 4 rfl)
                simp only [e4] at hK ⊢
                obtain ⟨u1, u2, u3, u4⟩ := (hS.mem.k (i := 0) rfl).four
                go_simp
                exact hK.out _ _ (hS.val rfl (noStore_of rfl) (Below.refl _ _) rfl)
              · intro L s w9 hN hU hi hS K hK
                dsimp only at hK ⊢
                simp only [Act.put, List.setIfInBounds_toArray, List.set_cons_zero, List.set_cons_succ] at hK
                have e4 : s 4 = .bool false := hS.val_at 4 rfl (by decide) (hN.out 4 rfl)
                simp only [e4] at hK ⊢
                go_simp
                exact hK.out _ _ (hS.val rfl (noStore_of rfl) (Below.refl _ _) rfl)
              · intro L s w9 hN hU hi hS K hK
                dsimp only at hK ⊢
                simp only [Act.put, List.setIfInBounds_toArray, List.set_cons_zero, List.set_cons_succ] at hK
                have e7 : s 7 = .pointer (some ⟨g, 1, none⟩) := hS.val_at 7 rfl (by decide) (hN.out 7 rfl)
                simp only [e7] at hK ⊢
                have e4 : s 4 = .bool false := hS.val_at 4 rfl (by decide) (hN.out 4 rfl)
                simp only [e4] at hK ⊢
                obtain ⟨u1, u2, u3, u4⟩ := (hS.mem.k (i := 0) rfl).four
                go_simp
                exact hK.out _ _ (hS.val rfl (noStore_of rfl) (Below.refl _ _) rfl)
              · intro L s w9 hN hU hi hS K hK
                dsimp only at hK ⊢
                simp only [Act.put, List.setIfInBounds_toArray, List.set_cons_zero, List.set_cons_succ] at hK
                have e8 : s 8 = .string tx := hS.val_at 8 rfl (by decide) (hN.out 8 rfl)
                simp only [e8] at hK ⊢
                have e4 : s 4 = .bool false := hS.val_at 4 rfl (by decide) (hN.out 4 rfl)
                simp only [e4] at hK ⊢
                go_simp
                exact hK.out _ _ (hS.val rfl (noStore_of rfl) (Below.refl _ _) rfl)
              · intro L s w9 hN hU hi hS K hK
                dsimp only at hK ⊢
                simp only [Act.put, List.setIfInBounds_toArray, List.set_cons_zero, List.set_cons_succ] at hK
                have e6 : s 6 = .int .i64 a := hS.val_at 6 rfl (by decide) (hN.out 6 rfl)
                simp only [e6] at hK ⊢
                have e9 : s 9 = .int .i64 tx.size := hS.val_at 9 rfl (by decide) (hN.out 9 rfl)
                simp only [e9] at hK ⊢
                have e4 : s 4 = .bool false := hS.val_at 4 rfl (by decide) (hN.out 4 rfl)
                simp only [e4] at hK ⊢
                go_simp
                exact hK.out _ _ (hS.val rfl (noStore_of rfl) (Below.refl _ _) rfl)
              · intro L s w9 hN hU hi hS K hK
                dsimp only at hK ⊢
                simp only [Act.put, List.setIfInBounds_toArray, List.set_cons_zero, List.set_cons_succ] at hK
                have e4 : s 4 = .bool false := hS.val_at 4 rfl (by decide) (hN.out 4 rfl)
                simp only [e4] at hK ⊢
                go_simp
                exact hK.out _ _ (hS.val rfl (noStore_of rfl) (Below.refl _ _) rfl)
              · intro L s w9 hN hU hi hS K hK
                dsimp only at hK ⊢
                simp only [Act.put, List.setIfInBounds_toArray, List.set_cons_zero, List.set_cons_succ] at hK
                have e11 : s 11 = .string sx := hS.val_at 11 rfl (by decide) (hN.out 11 rfl)
                simp only [e11] at hK ⊢
                have e4 : s 4 = .bool false := hS.val_at 4 rfl (by decide) (hN.out 4 rfl)
                simp only [e4] at hK ⊢
                go_simp
                exact hK.out _ _ (hS.val rfl (noStore_of rfl) (Below.refl _ _) rfl)
              · intro L s w9 hN hU hi hS K hK
                dsimp only at hK ⊢
                simp only [Act.put, List.setIfInBounds_toArray, List.set_cons_zero, List.set_cons_succ] at hK
                have e10 : s 10 = .int .i64 ((a : Int) + (tx.size : Int)) := hS.val_at 10 rfl (by decide) (hN.out 10 rfl)
                simp only [e10] at hK ⊢
                have e12 : s 12 = .int .i64 sx.size := hS.val_at 12 rfl (by decide) (hN.out 12 rfl)
                simp only [e12] at hK ⊢
                have e4 : s 4 = .bool false := hS.val_at 4 rfl (by decide) (hN.out 4 rfl)
                simp only [e4] at hK ⊢
                go_simp
                exact hK.out _ _ (hS.val rfl (noStore_of rfl) (Below.refl _ _) rfl)
              · intro L s w9 hN hU hi hS K hK
                dsimp only at hK ⊢
                simp only [Act.put, List.setIfInBounds_toArray, List.set_cons_zero, List.set_cons_succ] at hK
                have e4 : s 4 = .bool false := hS.val_at 4 rfl (by decide) (hN.out 4 rfl)
                simp only [e4] at hK ⊢
                have e13 : s 13 = .bool false := hS.val_at 13 rfl (by decide) (hN.out 13 rfl)
                simp only [e13] at hK ⊢
                go_simp
                exact hK.out _ _ (hS.val rfl (noStore_of rfl) (Below.refl _ _) rfl)
              · intro L s w9 hN hU hi hS K hK
                dsimp only at hK ⊢
                simp only [Act.put, List.setIfInBounds_toArray, List.set_cons_zero, List.set_cons_succ] at hK
                have e14 : s 14 = .bool false := hS.val_at 14 rfl (by decide) (hN.out 14 rfl)
                simp only [e14] at hK ⊢
                go_simp
                exact hK.out _ _ (hS.val rfl (noStore_of rfl) (Below.refl _ _) rfl)
              · intro L s w9 hN hU hi hS K hK
                dsimp only at hK ⊢
                simp only [Act.put, List.setIfInBounds_toArray, List.set_cons_zero, List.set_cons_succ] at hK
                have e15 : s 15 = .bool false := hS.val_at 15 rfl (by decide) (hN.out 15 rfl)
                simp only [e15] at hK ⊢
                go_simp
                exact hK.out _ _ (hS.val rfl (noStore_of rfl) (Below.refl _ _) rfl)
              · intro L s w9 hN hU hi hS K hK
                dsimp only at hK ⊢
                simp only [Act.put, List.setIfInBounds_toArray, List.set_cons_zero, List.set_cons_succ] at hK
                have e16 : s 16 = .pointer (some ⟨g, 1, none⟩) := hS.val_at 16 rfl (by decide) (hN.out 16 rfl)
                simp only [e16] at hK ⊢
                have e15 : s 15 = .bool false := hS.val_at 15 rfl (by decide) (hN.out 15 rfl)
                simp only [e15] at hK ⊢
                obtain ⟨u1, u2, u3, u4⟩ := (hS.mem.k (i := 0) rfl).four
                go_simp
                exact hK.out _ _ (hS.val rfl (noStore_of rfl) (Below.refl _ _) rfl)
              · intro L s w9 hN hU hi hS K hK
                dsimp only at hK ⊢
                simp only [Act.put, List.setIfInBounds_toArray, List.set_cons_zero, List.set_cons_succ] at hK
                have e17 : s 17 = .string tx := hS.val_at 17 rfl (by decide) (hN.out 17 rfl)
                simp only [e17] at hK ⊢
                have e15 : s 15 = .bool false := hS.val_at 15 rfl (by decide) (hN.out 15 rfl)
                simp only [e15] at hK ⊢
                go_simp
                exact hK.out _ _ (hS.val rfl (noStore_of rfl) (Below.refl _ _) rfl)
              · intro L s w9 hN hU hi hS K hK
                dsimp only at hK ⊢
                simp only [Act.put, List.setIfInBounds_toArray, List.set_cons_zero, List.set_cons_succ] at hK
                have e15 : s 15 = .bool false := hS.val_at 15 rfl (by decide) (hN.out 15 rfl)
                simp only [e15] at hK ⊢
                have e18 : s 18 = .bool false := hS.val_at 18 rfl (by decide) (hN.out 18 rfl)
                simp only [e18] at hK ⊢
                go_simp
                exact hK.out _ _ (hS.val rfl (noStore_of rfl) (Below.refl _ _) rfl)
              · intro L s w9 hN hU hi hS K hK
                dsimp only at hK ⊢
                simp only [Act.put, List.setIfInBounds_toArray, List.set_cons_zero, List.set_cons_succ] at hK
                have e19 : s 19 = .bool false := hS.val_at 19 rfl (by decide) (hN.out 19 rfl)
                simp only [e19] at hK ⊢
                go_simp
                exact hK.out _ _ (hS.val rfl (noStore_of rfl) (Below.refl _ _) rfl)
              · intro L s w9 hN hU hi hS K hK
                dsimp only at hK ⊢
                simp only [Act.put, List.setIfInBounds_toArray, List.set_cons_zero, List.set_cons_succ] at hK
                have e20 : s 20 = .bool false := hS.val_at 20 rfl (by decide) (hN.out 20 rfl)
                simp only [e20] at hK ⊢
                go_simp
                exact hK.out _ _ (hS.val rfl (noStore_of rfl) (Below.refl _ _) rfl)
              · intro L s w9 hN hU hi hS K hK
                dsimp only at hK ⊢
                simp only [Act.put, List.setIfInBounds_toArray, List.set_cons_zero, List.set_cons_succ] at hK
                have e20 : s 20 = .bool false := hS.val_at 20 rfl (by decide) (hN.out 20 rfl)
                simp only [e20] at hK ⊢
                go_simp
                exact hK.out _ _ (hS.val rfl (noStore_of rfl) (Below.refl _ _) rfl)
              · intro L s w9 hN hU hi hS K hK
                dsimp only at hK ⊢
                simp only [Act.put, List.setIfInBounds_toArray, List.set_cons_zero, List.set_cons_succ] at hK
                have e22 : s 22 = .pointer (some ⟨g, 3, none⟩) := hS.val_at 22 rfl (by decide) (hN.out 22 rfl)
                simp only [e22] at hK ⊢
                have e20 : s 20 = .bool false := hS.val_at 20 rfl (by decide) (hN.out 20 rfl)
                simp only [e20] at hK ⊢
                obtain ⟨u1, u2, u3, u4⟩ := (hS.mem.k (i := 0) rfl).four
                go_simp
                exact hK.out _ _ (hS.val rfl (noStore_of rfl) (Below.refl _ _) rfl)
              · intro L s w9 hN hU hi hS K hK
                dsimp only at hK ⊢
                simp only [Act.put, List.setIfInBounds_toArray, List.set_cons_zero, List.set_cons_succ] at hK
                have e20 : s 20 = .bool false := hS.val_at 20 rfl (by decide) (hN.out 20 rfl)
                simp only [e20] at hK ⊢
                go_simp
                exact hK.out _ _ (hS.val rfl (noStore_of rfl) (Below.refl _ _) rfl)
              · intro L s w9 hN hU hi hS K hK
                dsimp only at hK ⊢
                simp only [Act.put, List.setIfInBounds_toArray, List.set_cons_zero, List.set_cons_succ] at hK
                have e24 : s 24 = .pointer (some ⟨g, 3, none⟩) := hS.val_at 24 rfl (by decide) (hN.out 24 rfl)
                simp only [e24] at hK ⊢
                have e20 : s 20 = .bool false := hS.val_at 20 rfl (by decide) (hN.out 20 rfl)
                simp only [e20] at hK ⊢
                obtain ⟨u1, u2, u3, u4⟩ := (hS.mem.k (i := 0) rfl).four
                go_simp
                exact hK.out _ _ (hS.val rfl (noStore_of rfl) (Below.refl _ _) rfl)
              · intro L s w9 hN hU hi hS K hK
                dsimp only at hK ⊢
                simp only [Act.put, List.setIfInBounds_toArray, List.set_cons_zero, List.set_cons_succ] at hK
                have e20 : s 20 = .bool false := hS.val_at 20 rfl (by decide) (hN.out 20 rfl)
                simp only [e20] at hK ⊢
                go_simp
                exact hK.out _ _ (hS.val rfl (noStore_of rfl) (Below.refl _ _) rfl)
              · intro L s w9 hN hU hi hS K hK
                dsimp only at hK ⊢
                simp only [Act.put, List.setIfInBounds_toArray, List.set_cons_zero, List.set_cons_succ] at hK
                have e26 : s 26 = .pointer (some ⟨g, 1, none⟩) := hS.val_at 26 rfl (by decide) (hN.out 26 rfl)
                simp only [e26] at hK ⊢
                have e20 : s 20 = .bool false := hS.val_at 20 rfl (by decide) (hN.out 20 rfl)
                simp only [e20] at hK ⊢
                obtain ⟨u1, u2, u3, u4⟩ := (hS.mem.k (i := 0) rfl).four
                go_simp
                exact hK.out _ _ (hS.val rfl (noStore_of rfl) (Below.refl _ _) rfl)
              · intro L s w9 hN hU hi hS K hK
                dsimp only at hK ⊢
                simp only [Act.put, List.setIfInBounds_toArray, List.set_cons_zero, List.set_cons_succ] at hK
                have e27 : s 27 = .string tx := hS.val_at 27 rfl (by decide) (hN.out 27 rfl)
                simp only [e27] at hK ⊢
                have e20 : s 20 = .bool false := hS.val_at 20 rfl (by decide) (hN.out 20 rfl)
                simp only [e20] at hK ⊢
                go_simp
                exact hK.out _ _ (hS.val rfl (noStore_of rfl) (Below.refl _ _) rfl)
              · intro L s w9 hN hU hi hS K hK
                dsimp only at hK ⊢
                simp only [Act.put, List.setIfInBounds_toArray, List.set_cons_zero, List.set_cons_succ] at hK
                have e25 : s 25 = .int .i64 a := hS.val_at 25 rfl (by decide) (hN.out 25 rfl)
                simp only [e25] at hK ⊢
                have e28 : s 28 = .int .i64 tx.size := hS.val_at 28 rfl (by decide) (hN.out 28 rfl)
                simp only [e28] at hK ⊢
                have e20 : s 20 = .bool false := hS.val_at 20 rfl (by decide) (hN.out 20 rfl)
                simp only [e20] at hK ⊢
                go_simp
                exact hK.out _ _ (hS.val rfl (noStore_of rfl) (Below.refl _ _) rfl)
              · intro L s w9 hN hU hi hS K hK
                dsimp only at hK ⊢
                simp only [Act.put, List.setIfInBounds_toArray, List.set_cons_zero, List.set_cons_succ] at hK
                have e21 : s 21 = .string sx := hS.val_at 21 rfl (by decide) (hN.out 21 rfl)
                simp only [e21] at hK ⊢
                have e23 : s 23 = .int .i64 a := hS.val_at 23 rfl (by decide) (hN.out 23 rfl)
                simp only [e23] at hK ⊢
                have e29 : s 29 = .int .i64 ((a : Int) + (tx.size : Int)) := hS.val_at 29 rfl (by decide) (hN.out 29 rfl)
                simp only [e29] at hK ⊢
                have e20 : s 20 = .bool false := hS.val_at 20 rfl (by decide) (hN.out 20 rfl)
                simp only [e20] at hK ⊢
                go_simp
                exact hK.out _ _ (hS.val rfl (noStore_of rfl) (Below.refl _ _) rfl)
              · intro L s w9 hN hU hi hS K hK
                dsimp only at hK ⊢
                simp only [Act.put, List.setIfInBounds_toArray, List.set_cons_zero, List.set_cons_succ] at hK
                have e20 : s 20 = .bool false := hS.val_at 20 rfl (by decide) (hN.out 20 rfl)
                simp only [e20] at hK ⊢
                go_simp
                exact hK.out _ _ (hS.val rfl (noStore_of rfl) (Below.refl _ _) rfl)
              · intro L s w9 hN hU hi hS K hK
                dsimp only at hK ⊢
                simp only [Act.put, List.setIfInBounds_toArray, List.set_cons_zero, List.set_cons_succ] at hK
                have e31 : s 31 = .pointer (some ⟨g, 1, none⟩) := hS.val_at 31 rfl (by decide) (hN.out 31 rfl)
                simp only [e31] at hK ⊢
                have e20 : s 20 = .bool false := hS.val_at 20 rfl (by decide) (hN.out 20 rfl)
                simp only [e20] at hK ⊢
                obtain ⟨u1, u2, u3, u4⟩ := (hS.mem.k (i := 0) rfl).four
                go_simp
                exact hK.out _ _ (hS.val rfl (noStore_of rfl) (Below.refl _ _) rfl)
              · intro L s w9 hN hU hi hS K hK
                dsimp only at hK ⊢
                simp only [Act.put, List.setIfInBounds_toArray, List.set_cons_zero, List.set_cons_succ] at hK
                have e30 : s 30 = .string (sx.extract a (a + tx.size)) := hS.val_at 30 rfl (by decide) (hN.out 30 rfl)
                simp only [e30] at hK ⊢
                have e32 : s 32 = .string tx := hS.val_at 32 rfl (by decide) (hN.out 32 rfl)
                simp only [e32] at hK ⊢
                have e20 : s 20 = .bool false := hS.val_at 20 rfl (by decide) (hN.out 20 rfl)
                simp only [e20] at hK ⊢
                go_simp
                exact hK.out _ _ (hS.val rfl (noStore_of rfl) (Below.refl _ _) rfl)
              · intro L s w9 hN hU hi hS K hK
                dsimp only at hK ⊢
                simp only [Act.put, List.setIfInBounds_toArray, List.set_cons_zero, List.set_cons_succ] at hK
                have e20 : s 20 = .bool false := hS.val_at 20 rfl (by decide) (hN.out 20 rfl)
                simp only [e20] at hK ⊢
                have e33 : s 33 = .bool false := hS.val_at 33 rfl (by decide) (hN.out 33 rfl)
                simp only [e33] at hK ⊢
                go_simp
                exact hK.out _ _ (hS.val rfl (noStore_of rfl) (Below.refl _ _) rfl)
              · intro L s w9 hN hU hi hS K hK
                dsimp only at hK ⊢
                simp only [Act.put, List.setIfInBounds_toArray, List.set_cons_zero, List.set_cons_succ] at hK
                have e34 : s 34 = .bool false := hS.val_at 34 rfl (by decide) (hN.out 34 rfl)
                simp only [e34] at hK ⊢
                go_simp
                exact hK.out _ _ (hS.val rfl (noStore_of rfl) (Below.refl _ _) rfl)
              · intro L s w9 hN hU hi hS K hK
                dsimp only at hK ⊢
                simp only [Act.put, List.setIfInBounds_toArray, List.set_cons_zero, List.set_cons_succ] at hK
                have e35 : s 35 = .bool false := hS.val_at 35 rfl (by decide) (hN.out 35 rfl)
                simp only [e35] at hK ⊢
                go_simp
                exact hK.out _ _ (hS.val rfl (noStore_of rfl) (Below.refl _ _) rfl)
              · intro L s w9 hN hU hi hS K hK
                dsimp only at hK ⊢
                simp only [Act.put, List.setIfInBounds_toArray, List.set_cons_zero, List.set_cons_succ] at hK
                have e35 : s 35 = .bool false := hS.val_at 35 rfl (by decide) (hN.out 35 rfl)
                simp only [e35] at hK ⊢
                go_simp
                exact hK.out _ _ (hS.val rfl (noStore_of rfl) (Below.refl _ _) rfl)
              · intro L s w9 hN hU hi hS K hK
                dsimp only at hK ⊢
                simp only [Act.put, List.setIfInBounds_toArray, List.set_cons_zero, List.set_cons_succ] at hK
                have e35 : s 35 = .bool false := hS.val_at 35 rfl (by decide) (hN.out 35 rfl)
                simp only [e35] at hK ⊢
                go_simp
                exact hK.out _ _ (hS.val rfl (noStore_of rfl) (Below.refl _ _) rfl)
              · intro L s w9 hN hU hi hS K hK
                dsimp only at hK ⊢
                simp only [Act.put, List.setIfInBounds_toArray, List.set_cons_zero, List.set_cons_succ] at hK
                have e38 : s 38 = .pointer (some ⟨g, 3, none⟩) := hS.val_at 38 rfl (by decide) (hN.out 38 rfl)
                simp only [e38] at hK ⊢
                have e35 : s 35 = .bool false := hS.val_at 35 rfl (by decide) (hN.out 35 rfl)
                simp only [e35] at hK ⊢
                obtain ⟨u1, u2, u3, u4⟩ := (hS.mem.k (i := 0) rfl).four
                go_simp
                exact hK.out _ _ (hS.val rfl (noStore_of rfl) (Below.refl _ _) rfl)
              · intro L s w9 hN hU hi hS K hK
                dsimp only at hK ⊢
                simp only [Act.put, List.setIfInBounds_toArray, List.set_cons_zero, List.set_cons_succ] at hK
                have e36 : s 36 = .string sx := hS.val_at 36 rfl (by decide) (hN.out 36 rfl)
                simp only [e36] at hK ⊢
                have e37 : s 37 = .int .i64 last := hS.val_at 37 rfl (by decide) (hN.out 37 rfl)
                simp only [e37] at hK ⊢
                have e39 : s 39 = .int .i64 a := hS.val_at 39 rfl (by decide) (hN.out 39 rfl)
                simp only [e39] at hK ⊢
                have e35 : s 35 = .bool false := hS.val_at 35 rfl (by decide) (hN.out 35 rfl)
                simp only [e35] at hK ⊢
                go_simp
                exact hK.out _ _ (hS.val rfl (noStore_of rfl) (Below.refl _ _) rfl)
              · intro L s w9 hN hU hi hS K hK
                dsimp only at hK ⊢
                simp only [Act.put, List.setIfInBounds_toArray, List.set_cons_zero, List.set_cons_succ] at hK
                have e40 : s 40 = .string (sx.extract last a) := hS.val_at 40 rfl (by decide) (hN.out 40 rfl)
                simp only [e40] at hK ⊢
                have e35 : s 35 = .bool false := hS.val_at 35 rfl (by decide) (hN.out 35 rfl)
                simp only [e35] at hK ⊢
                go_simp
                go_at_call 15
                refine (blankS_yes _ _ HB.out).mono ?_
                rintro e9 w10 ⟨rfl, q⟩
                exact hK.out _ _ (hS.val rfl (noStore_of rfl) q rfl)
              · intro L s w9 hN hU hi hS K hK
                dsimp only at hK ⊢
                simp only [Act.put, List.setIfInBounds_toArray, List.set_cons_zero, List.set_cons_succ] at hK
                have e41 : s 41 = .bool true := hS.val_at 41 rfl (by decide) (hN.out 41 rfl)
                simp only [e41] at hK ⊢
                have e35 : s 35 = .bool false := hS.val_at 35 rfl (by decide) (hN.out 35 rfl)
                simp only [e35] at hK ⊢
                go_simp
                exact hK.out _ _ (hS.val rfl (noStore_of rfl) (Below.refl _ _) rfl)
              · intro L s w9 hN hU hi hS K hK
                dsimp only at hK ⊢
                simp only [Act.put, List.setIfInBounds_toArray, List.set_cons_zero, List.set_cons_succ] at hK
                have e35 : s 35 = .bool false := hS.val_at 35 rfl (by decide) (hN.out 35 rfl)
                simp only [e35] at hK ⊢
                have e42 : s 42 = .bool false := hS.val_at 42 rfl (by decide) (hN.out 42 rfl)
                simp only [e42] at hK ⊢
                go_simp
                exact hK.out _ _ (hS.val rfl (noStore_of rfl) (Below.refl _ _) rfl)
              · intro L s w9 hN hU hi hS K hK
                dsimp only at hK ⊢
                simp only [Act.put, List.setIfInBounds_toArray, List.set_cons_zero, List.set_cons_succ] at hK
                have e43 : s 43 = .bool false := hS.val_at 43 rfl (by decide) (hN.out 43 rfl)
                simp only [e43] at hK ⊢
                go_simp
                exact hK.out _ _ (hS.val rfl (noStore_of rfl) (Below.refl _ _) rfl)
              · intro L s w9 hN hU hi hS K hK
                dsimp only at hK ⊢
                simp only [Act.put, List.setIfInBounds_toArray, List.set_cons_zero, List.set_cons_succ] at hK
                have e44 : s 44 = .bool false := hS.val_at 44 rfl (by decide) (hN.out 44 rfl)
                simp only [e44] at hK ⊢
                go_simp
                exact hK.out _ _ (hS.val rfl (noStore_of rfl) (Below.refl _ _) rfl)
              · intro L s w9 hN hU hi hS K hK
                dsimp only at hK ⊢
                simp only [Act.put, List.setIfInBounds_toArray, List.set_cons_zero, List.set_cons_succ] at hK
                have e45 : s 45 = .pointer (some ⟨g, 0, none⟩) := hS.val_at 45 rfl (by decide) (hN.out 45 rfl)
                simp only [e45] at hK ⊢
                have e44 : s 44 = .bool false := hS.val_at 44 rfl (by decide) (hN.out 44 rfl)
                simp only [e44] at hK ⊢
                obtain ⟨u1, u2, u3, u4⟩ := (hS.mem.k (i := 0) rfl).four
                go_simp
                exact hK.out _ _ (hS.val rfl (noStore_of rfl) (Below.refl _ _) rfl)
              · intro L s w9 hN hU hi hS K hK
                dsimp only at hK ⊢
                simp only [Act.put, List.setIfInBounds_toArray, List.set_cons_zero, List.set_cons_succ] at hK
                have e46 : s 46 = .int .i64 kk := hS.val_at 46 rfl (by decide) (hN.out 46 rfl)
                simp only [e46] at hK ⊢
                have e44 : s 44 = .bool false := hS.val_at 44 rfl (by decide) (hN.out 44 rfl)
                simp only [e44] at hK ⊢
                go_simp
                exact hK.out _ _ (hS.val rfl (noStore_of rfl) (Below.refl _ _) rfl)
              · intro L s w9 hN hU hi hS K hK
                dsimp only at hK ⊢
                simp only [Act.put, List.setIfInBounds_toArray, List.set_cons_zero, List.set_cons_succ] at hK
                have e44 : s 44 = .bool false := hS.val_at 44 rfl (by decide) (hN.out 44 rfl)
                simp only [e44] at hK ⊢
                have e47 : s 47 = .bool false := hS.val_at 47 rfl (by decide) (hN.out 47 rfl)
                simp only [e47] at hK ⊢
                go_simp
                exact hK.out _ _ (hS.val rfl (noStore_of rfl) (Below.refl _ _) rfl)
              · intro L s w9 hN hU hi hS K hK
                dsimp only at hK ⊢
                simp only [Act.put, List.setIfInBounds_toArray, List.set_cons_zero, List.set_cons_succ] at hK
                have e48 : s 48 = .bool false := hS.val_at 48 rfl (by decide) (hN.out 48 rfl)
                simp only [e48] at hK ⊢
                go_simp
                exact hK.out _ _ (hS.val rfl (noStore_of rfl) (Below.refl _ _) rfl)
              · intro L s w9 hN hU hi hS K hK
                dsimp only at hK ⊢
                simp only [Act.put, List.setIfInBounds_toArray, List.set_cons_zero, List.set_cons_succ] at hK
                have e49 : s 49 = .bool false := hS.val_at 49 rfl (by decide) (hN.out 49 rfl)
                simp only [e49] at hK ⊢
                go_simp
                exact hK.out _ _ (hS.val rfl (noStore_of rfl) (Below.refl _ _) rfl)
              · intro L s w9 hN hU hi hS K hK
                dsimp only at hK ⊢
                simp only [Act.put, List.setIfInBounds_toArray, List.set_cons_zero, List.set_cons_succ] at hK
                have e50 : s 50 = .pointer (some ⟨g, 0, none⟩) := hS.val_at 50 rfl (by decide) (hN.out 50 rfl)
                simp only [e50] at hK ⊢
                have e49 : s 49 = .bool false := hS.val_at 49 rfl (by decide) (hN.out 49 rfl)
                simp only [e49] at hK ⊢
                obtain ⟨u1, u2, u3, u4⟩ := (hS.mem.k (i := 0) rfl).four
                go_simp
                exact hK.out _ _ (hS.val rfl (noStore_of rfl) (Below.refl _ _) rfl)
              · intro L s w9 hN hU hi hS K hK
                dsimp only at hK ⊢
                simp only [Act.put, List.setIfInBounds_toArray, List.set_cons_zero, List.set_cons_succ] at hK
                have e51 : s 51 = .int .i64 kk := hS.val_at 51 rfl (by decide) (hN.out 51 rfl)
                simp only [e51] at hK ⊢
                have e49 : s 49 = .bool false := hS.val_at 49 rfl (by decide) (hN.out 49 rfl)
                simp only [e49] at hK ⊢
                go_simp
                exact hK.out _ _ (hS.val rfl (noStore_of rfl) (Below.refl _ _) rfl)
              · intro L s w9 hN hU hi hS K hK
                dsimp only at hK ⊢
                simp only [Act.put, List.setIfInBounds_toArray, List.set_cons_zero, List.set_cons_succ] at hK
                have e49 : s 49 = .bool false := hS.val_at 49 rfl (by decide) (hN.out 49 rfl)
                simp only [e49] at hK ⊢
                have e52 : s 52 = .bool false := hS.val_at 52 rfl (by decide) (hN.out 52 rfl)
                simp only [e52] at hK ⊢
                go_simp
                exact hK.out _ _ (hS.val rfl (noStore_of rfl) (Below.refl _ _) rfl)
              · intro L s w9 hN hU hi hS K hK
                dsimp only at hK ⊢
                simp only [Act.put, List.setIfInBounds_toArray, List.set_cons_zero, List.set_cons_succ] at hK
                have e53 : s 53 = .bool false := hS.val_at 53 rfl (by decide) (hN.out 53 rfl)
                simp only [e53] at hK ⊢
                go_simp
                exact hK.out _ _ (hS.val rfl (noStore_of rfl) (Below.refl _ _) rfl)
              · intro L s w9 hN hU hi hS K hK
                dsimp only at hK ⊢
                simp only [Act.put, List.setIfInBounds_toArray, List.set_cons_zero, List.set_cons_succ] at hK
                have e54 : s 54 = .bool false := hS.val_at 54 rfl (by decide) (hN.out 54 rfl)
                simp only [e54] at hK ⊢
                go_simp
                exact hK.out _ _ (hS.val rfl (noStore_of rfl) (Below.refl _ _) rfl)
              · intro L s w9 hN hU hi hS K hK
                dsimp only at hK ⊢
                simp only [Act.put, List.setIfInBounds_toArray, List.set_cons_zero, List.set_cons_succ] at hK
                have e55 : s 55 = .pointer (some ⟨g, 0, none⟩) := hS.val_at 55 rfl (by decide) (hN.out 55 rfl)
                simp only [e55] at hK ⊢
                have e54 : s 54 = .bool false := hS.val_at 54 rfl (by decide) (hN.out 54 rfl)
                simp only [e54] at hK ⊢
                obtain ⟨u1, u2, u3, u4⟩ := (hS.mem.k (i := 0) rfl).four
                go_simp
                exact hK.out _ _ (hS.val rfl (noStore_of rfl) (Below.refl _ _) rfl)
              · intro L s w9 hN hU hi hS K hK
                dsimp only at hK ⊢
                simp only [Act.put, List.setIfInBounds_toArray, List.set_cons_zero, List.set_cons_succ] at hK
                have e56 : s 56 = .int .i64 kk := hS.val_at 56 rfl (by decide) (hN.out 56 rfl)
                simp only [e56] at hK ⊢
                have e54 : s 54 = .bool false := hS.val_at 54 rfl (by decide) (hN.out 54 rfl)
                simp only [e54] at hK ⊢
                go_simp
                exact hK.out _ _ (hS.val rfl (noStore_of rfl) (Below.refl _ _) rfl)
              · intro L s w9 hN hU hi hS K hK
                dsimp only at hK ⊢
                simp only [Act.put, List.setIfInBounds_toArray, List.set_cons_zero, List.set_cons_succ] at hK
                have e57 : s 57 = .bool true := hS.val_at 57 rfl (by decide) (hN.out 57 rfl)
                simp only [e57] at hK ⊢
                have e54 : s 54 = .bool false := hS.val_at 54 rfl (by decide) (hN.out 54 rfl)
                simp only [e54] at hK ⊢
                go_simp
                exact hK.out _ _ (hS.val rfl (noStore_of rfl) (Below.refl _ _) rfl)
              · intro L s w9 hN hU hi hS K hK
                dsimp only at hK ⊢
                simp only [Act.put, List.setIfInBounds_toArray, List.set_cons_zero, List.set_cons_succ] at hK
                have e58 : s 58 = .bool true := hS.val_at 58 rfl (by decide) (hN.out 58 rfl)
                simp only [e58] at hK ⊢
                go_simp
                exact hK.out _ _ (hS.val rfl (noStore_of rfl) (Below.refl _ _) rfl)
              · intro L s w9 hN hU hi hS K hK
                dsimp only at hK ⊢
                simp only [Act.put, List.setIfInBounds_toArray, List.set_cons_zero, List.set_cons_succ] at hK
                have e59 : s 59 = .pointer (some ⟨g, 2, none⟩) := hS.val_at 59 rfl (by decide) (hN.out 59 rfl)
                simp only [e59] at hK ⊢
                have e58 : s 58 = .bool true := hS.val_at 58 rfl (by decide) (hN.out 58 rfl)
                simp only [e58] at hK ⊢
                obtain ⟨u1, u2, u3, u4⟩ := (hS.mem.k (i := 0) rfl).four
                go_simp
                exact hK.out _ _ (hS.val rfl (noStore_of rfl) (Below.refl _ _) rfl)
              · intro L s w9 hN hU hi hS K hK
                dsimp only at hK ⊢
                simp only [Act.put, List.setIfInBounds_toArray, List.set_cons_zero, List.set_cons_succ] at hK
                have e60 : s 60 = .int .i64 0 := hS.val_at 60 rfl (by decide) (hN.out 60 rfl)
                simp only [e60] at hK ⊢
                have e58 : s 58 = .bool true := hS.val_at 58 rfl (by decide) (hN.out 58 rfl)
                simp only [e58] at hK ⊢
                go_simp
                exact hK.out _ _ (hS.val rfl (noStore_of rfl) (Below.refl _ _) rfl)
              · intro L s w9 hN hU hi hS K hK
                dsimp only at hK ⊢
                simp only [Act.put, List.setIfInBounds_toArray, List.set_cons_zero, List.set_cons_succ] at hK
                have e58 : s 58 = .bool true := hS.val_at 58 rfl (by decide) (hN.out 58 rfl)
                simp only [e58] at hK ⊢
                have e61 : s 61 = .bool false := hS.val_at 61 rfl (by decide) (hN.out 61 rfl)
                simp only [e61] at hK ⊢
                have e54 : s 54 = .bool false := hS.val_at 54 rfl (by decide) (hN.out 54 rfl)
                simp only [e54] at hK ⊢
                go_simp
                exact hK.out _ _ (hS.val rfl (noStore_of rfl) (Below.refl _ _) rfl)
              · intro L s w9 hN hU hi hS K hK
                dsimp only at hK ⊢
                simp only [Act.put, List.setIfInBounds_toArray, List.set_cons_zero, List.set_cons_succ] at hK
                have e54 : s 54 = .bool false := hS.val_at 54 rfl (by decide) (hN.out 54 rfl)
                simp only [e54] at hK ⊢
                have e62 : s 62 = .bool false := hS.val_at 62 rfl (by decide) (hN.out 62 rfl)
                simp only [e62] at hK ⊢
                go_simp
                exact hK.out _ _ (hS.val rfl (noStore_of rfl) (Below.refl _ _) rfl)
            intro L s w9 hall hS
            have eL : s 63 = .bool false := hS.val_at 63 rfl (by decide) (hall 63 (by decide))
            obtain ⟨u1, u2, u3, u4⟩ := (hS.mem.k (i := 0) rfl).four
            clear hS1 hS2
            go_wp2_with fail
            go_roundg (l.length - (j + 1))
            case measure => omega
            case rel => exact ⟨j + 1, a + tx.size, rfl, by omega, by simp, by simp, HR, hS.mem.bel⟩
        · have d2 : decide ((j : Int) < (l.length : Int)) = false := decide_eq_false (by omega)
          have hP2 := hP.out
          rw [List.drop_of_length_le (by omega)] at hP2
          obtain ⟨hl1, hl2⟩ := hP2
          have hlen : sx.data.toList.length = sx.size := by simp
          rw [hlen] at hl1
          have hbk : splitR (sx.extract last sx.size).data.toList = ([], 0, 0) := by
            rw [ext_at hl1, List.take_of_length_le (by rw [List.length_drop]; omega)]
            exact splitR_blank hl2 (by rw [List.length_drop]; omega)
          have HB := Lib.hid hbk
          clear hbk hl2 hP hlen HPL
          go_wp2_with fail
          refine (blankS_yes _ _ HB.out).mono ?_
          rintro e w5 ⟨rfl, q5⟩
          go_wp2_with fail
          go_ret
          exact ⟨rfl, below_trans (below_trans q hb) q5⟩
    · obtain ⟨rfl, hat⟩ := hp.2 her
      have d2 : (er != 0) = true := by simpa using her
      have h0 : decide ((0 : Int) ≤ (p : Int)) = true := decide_eq_true (by omega)
      clear hp hbig her
      by_cases hlt : p < sx.size
      · have d3 : decide ((p : Int) < (sx.size : Int)) = true := decide_eq_true (by omega)
        go_wp2_with fail
        go_ret
        exact ⟨rfl, q⟩
      · have d3 : decide ((p : Int) < (sx.size : Int)) = false := decide_eq_false (by omega)
        obtain rfl : p = 0 := by
          rcases hat with h | h
          · have : sx.data.toList.length = sx.size := by simp
            omega
          · exact h
        go_wp2_with fail
        go_ret
        exact ⟨rfl, q⟩
  · have d1 : decide ((9000 : Int) < (sx.size : Int)) = true := decide_eq_true (by omega)
    go_enter Tryd.func5, Tryd.ntmps5
    go_wp2_with fail
    refine (alive_any w hE).mono ?_
    rintro e w1 ⟨rfl, q1⟩
    go_wp2_with fail
    go_ret
    exact ⟨rfl, q1⟩
end Go.Proofs.YtjjdpbfbpaobhaaDoor

/-
  The document's Same of items.
-/
import Derived.Test.YtpfhgkielakmoaaGreatDoorPs
set_option linter.unusedSimpArgs false
set_option linter.unusedVariables false
namespace Go.Proofs.YtpfhgkielakmoaaGreatDoor
open Go.RowKit Num

def domB : List (Int × Int) → List (Int × Int) → Bool
  | [], [] => true
  | p :: a, q :: b => (p.1 == q.1 && p.2 == q.2) && domB a b
  | _, _ => false
def itB (x y : It) : Bool := !(x.k != y.k || (x.name != y.name || (x.bool != y.bool || (x.size != y.size || (x.out != y.out || (x.ask != y.ask || (x.dom.length != y.dom.length))))))) && (exsB x.vals y.vals && domB x.dom y.dom)
def itsB : List It → List It → Bool
  | [], [] => true
  | p :: a, q :: b => itB p q && itsB a b
  | _, _ => false
theorem itsB_len : ∀ {a b : List It}, a.length ≠ b.length → itsB a b = false
  | [], [], h => absurd rfl h
  | [], _ :: _, _ => rfl
  | _ :: _, [], _ => rfl
  | x :: a, y :: b, h => by
    show (itB x y && itsB a b) = false
    rw [itsB_len (a := a) (b := b) (fun e => h (by rw [List.length_cons, List.length_cons, e])), Bool.and_false]
theorem itsB_drop {a b : List It} {j : Nat} (h1 : j < a.length) (h2 : j < b.length) : itsB (a.drop j) (b.drop j) = (itB a[j] b[j] && itsB (a.drop (j + 1)) (b.drop (j + 1))) := by
  rw [List.drop_eq_getElem_cons h1, List.drop_eq_getElem_cons h2]
  rfl
theorem domB_drop {a b : List (Int × Int)} {j : Nat} (h1 : j < a.length) (h2 : j < b.length) : domB (a.drop j) (b.drop j) = ((a[j].1 == b[j].1 && a[j].2 == b[j].2) && domB (a.drop (j + 1)) (b.drop (j + 1))) := by
  rw [List.drop_eq_getElem_cons h1, List.drop_eq_getElem_cons h2]
  rfl
theorem itsB_end {a b : List It} {j : Nat} (h1 : a.length ≤ j) (h2 : b.length ≤ j) : itsB (a.drop j) (b.drop j) = true := by
  rw [List.drop_of_length_le h1, List.drop_of_length_le h2]
  rfl
theorem domB_end {a b : List (Int × Int)} {j : Nat} (h1 : a.length ≤ j) (h2 : b.length ≤ j) : domB (a.drop j) (b.drop j) = true := by
  rw [List.drop_of_length_le h1, List.drop_of_length_le h2]
  rfl
/-- The cells of a row of ranges. -/
theorem row_rg {F : Nat → Prop} {w : World} {A : Option Addr} {n c : Nat} {l : List (Int × Int)} (h : layR.row.P F w (.slice A n c) l) (hn : l ≠ []) :
    ∃ b o, A = some ⟨b, o, none⟩ ∧ b < w.heap.size ∧ ∀ j (hj : j < l.length), w.cell? ⟨b, o + j * 2, none⟩ = some (.int .i64 l[j].1) ∧ w.cell? ⟨b, o + j * 2 + 1, none⟩ = some (.int .i64 l[j].2) := by
  obtain ⟨A', c', h1, h2, h3, h4⟩ := h
  obtain ⟨b, o, h5, h6, h7, h8⟩ := h4 hn
  injection h1 with e1 _ _
  subst e1
  refine ⟨b, o, h5, h7, fun j hj => ?_⟩
  obtain ⟨u0, k0, p0⟩ := h8 j hj 0 (by show 0 < 2; omega)
  obtain ⟨u1, k1, p1⟩ := h8 j hj 1 (by show 1 < 2; omega)
  have p0' : u0 = .int .i64 l[j].1 := p0
  have p1' : u1 = .int .i64 l[j].2 := p1
  subst p0' p1'
  exact ⟨k0, k1⟩
set_option maxRecDepth 100000 in
set_option maxHeartbeats 8000000 in
theorem rsameI_any {F G : Nat → Prop} (A B : Option Addr) (c d : Nat) (la lb : List It) (w : World) (ha : (layI 28 50).row.P F w (.slice A la.length c) la) (hb : (layI 28 50).row.P G w (.slice B lb.length d) lb) (hn : la.length ≤ 10000) (hm : ∀ x ∈ la, x.dom.length ≤ 10000 ∧ x.vals.length ≤ 10000 ∧ ∀ y ∈ x.vals, y.l.length ≤ 10000) :
    Calls Tryz.prog 13 #[.slice A la.length c, .slice B lb.length d] w fun e w' => e = .returned (.bool (itsB la lb)) ∧ Below w.heap.size w w' := by
  have HM := Lib.hid hm
  clear hm
  by_cases hl : la.length = lb.length
  · have d0 : ((la.length : Int) != (lb.length : Int)) = false := by rw [hl]; simp
    have HL := Lib.hid hl
    clear hl
    go_enter Tryz.func13, Tryz.ntmps13
    go_wp2_with fail
    go_loopg [5] la.length (fun k a wr => ∃ j, k = la.length - j ∧ j ≤ la.length ∧ a = .int .i64 (j : Nat) ∧ Hid (itsB la lb = itsB (la.drop j) (lb.drop j)) ∧ Below w.heap.size w wr)
    case atStart => exact ⟨0, rfl, Nat.zero_le _, rfl, rfl, Below.refl _ _⟩
    case round =>
      obtain ⟨j, hk, hj, rfl, hT, hbl⟩ := hrel
      by_cases hlt : j < la.length
      · have hlt2 : j < lb.length := by have := HL.out; omega
        have d1 : decide ((j : Int) < (la.length : Int)) = true := decide_eq_true (by omega)
        obtain ⟨b, o, hA, hb1, hc⟩ := row_it (Dt.below _ ha hbl (Nat.le_refl _)) (lt_ne hlt)
        obtain ⟨b', o', hB, hb2, hc'⟩ := row_it (Dt.below _ hb hbl (Nat.le_refl _)) (lt_ne hlt2)
        obtain ⟨c0, c1, c2, c4, c5, c7, ⟨A3, n3, c3, hxd⟩, A6, n6, c6, hxv⟩ := hc j hlt
        obtain ⟨k0, k1, k2, k4, k5, k7, ⟨B3, m3, k3, hyd⟩, B6, m6, k6, hyv⟩ := hc' j hlt2
        have ht := hT.out.trans (itsB_drop hlt hlt2)
        have hm1 := HM.out la[j] (List.getElem_mem hlt)
        clear hc hc' hT
        subst hA hB
        generalize la[j] = x at *
        generalize lb[j] = y at *
        obtain ⟨xk, xn, xb, xd, xz, xo, xv, xa⟩ := x
        obtain ⟨yk, yn, yb, yd, yz, yo, yv, ya⟩ := y
        dsimp only at c0 c1 c2 c3 c4 c5 c6 c7 k0 k1 k2 k3 k4 k5 k6 k7 hxd hxv hyd hyv hm1
        have HT := Lib.hid ht
        clear ht
        go_upto_region 6 with fail
        have M : Mem wr wr [] [] := Mem.start wr
        refine region_st (n := 12) (frame := ?frame1) (fun jK => [.val (.fix (.slice (some ⟨b, o, none⟩) la.length c)), .val (.fix (.int .i64 j)), .val (.fix (.pointer (some ⟨b, o + j * 8, none⟩))), .val (.fix (.agg #[.int .i64 xk, .string ⟨xn.toArray⟩, .bool xb, .slice A3 xd.length n3, .int .i64 xz, .bool xo, .slice A6 xv.length n6, .int .i64 xa])), .val (.fix (.slice (some ⟨b', o', none⟩) lb.length d)), .val (.fix (.int .i64 j)), .val (.fix (.pointer (some ⟨b', o' + j * 8, none⟩))), .val (.fix (.agg #[.int .i64 yk, .string ⟨yn.toArray⟩, .bool yb, .slice B3 yd.length m3, .int .i64 yz, .bool yo, .slice B6 yv.length m6, .int .i64 ya])), .cell 10 28 #[.int .i64 0, .string ⟨#[]⟩, .bool false, .slice none 0 0, .int .i64 0, .bool false, .slice none 0 0, .int .i64 0] (.fix (#[.int .i64 xk, .string ⟨xn.toArray⟩, .bool xb, .slice A3 xd.length n3, .int .i64 xz, .bool xo, .slice A6 xv.length n6, .int .i64 xa])), .cell 11 28 #[.int .i64 0, .string ⟨#[]⟩, .bool false, .slice none 0 0, .int .i64 0, .bool false, .slice none 0 0, .int .i64 0] (.fix (#[.int .i64 yk, .string ⟨yn.toArray⟩, .bool yb, .slice B3 yd.length m3, .int .i64 yz, .bool yo, .slice B6 yv.length m6, .int .i64 ya])), .none, .none].getD jK .none) [] (by kernel_rfl) (by kernel_rfl) (by kernel_rfl) rfl M (fun _ h => by cases h) (fun _ h => by cases h) ?_ ?_ ?_
        case refine_1 =>
          intro s
          simp only [fr, Act.put, List.append_eq, List.cons_append, List.nil_append, List.setIfInBounds_toArray, List.set_cons_zero, List.set_cons_succ, Nat.reduceAdd]
          rfl
        case refine_2 =>
          refine Steps.cons 0 (j := 1) rfl ?_ (Steps.cons 1 (j := 2) rfl ?_ (Steps.cons 2 (j := 3) rfl ?_ (Steps.cons 3 (j := 4) rfl ?_ (Steps.cons 4 (j := 5) rfl ?_ (Steps.cons 5 (j := 6) rfl ?_ (Steps.cons 6 (j := 7) rfl ?_ (Steps.cons 7 (j := 8) rfl ?_ (Steps.cons 8 (j := 9) rfl ?_ (Steps.cons 9 (j := 10) rfl ?_ (Steps.cons 10 (j := 11) rfl ?_ (Steps.cons 11 (j := 12) rfl ?_ Steps.nil)))))))))))
          · intro L s w9 hN hU hi hS K hK
            dsimp only at hK ⊢
            simp only [Act.put, List.setIfInBounds_toArray, List.set_cons_zero, List.set_cons_succ] at hK
            go_simp
            exact hK.out _ _ (hS.val rfl rfl (Below.refl _ _) rfl)
          · intro L s w9 hN hU hi hS K hK
            dsimp only at hK ⊢
            simp only [Act.put, List.setIfInBounds_toArray, List.set_cons_zero, List.set_cons_succ] at hK
            go_simp
            exact hK.out _ _ (hS.val rfl rfl (Below.refl _ _) rfl)
          · intro L s w9 hN hU hi hS K hK
            dsimp only at hK ⊢
            simp only [Act.put, List.setIfInBounds_toArray, List.set_cons_zero, List.set_cons_succ] at hK
            have e0 : s 0 = .slice (some ⟨b, o, none⟩) la.length c := hS.val_at 0 rfl (by decide) (hN.out 0 rfl)
            simp only [e0] at hK ⊢
            have e1 : s 1 = .int .i64 j := hS.val_at 1 rfl (by decide) (hN.out 1 rfl)
            simp only [e1] at hK ⊢
            go_simp
            exact hK.out _ _ (hS.val rfl rfl (Below.refl _ _) rfl)
          · intro L s w9 hN hU hi hS K hK
            dsimp only at hK ⊢
            simp only [Act.put, List.setIfInBounds_toArray, List.set_cons_zero, List.set_cons_succ] at hK
            have e2 : s 2 = .pointer (some ⟨b, o + j * 8, none⟩) := hS.val_at 2 rfl (by decide) (hN.out 2 rfl)
            simp only [e2] at hK ⊢
            have u0 := (hS.mem.bel.cell (p := ⟨b, o + j * 8, none⟩) hb1).trans c0
            have u1 := (hS.mem.bel.cell (p := ⟨b, o + j * 8 + 1, none⟩) hb1).trans c1
            have u2 := (hS.mem.bel.cell (p := ⟨b, o + j * 8 + 2, none⟩) hb1).trans c2
            have u3 := (hS.mem.bel.cell (p := ⟨b, o + j * 8 + 3, none⟩) hb1).trans c3
            have u4 := (hS.mem.bel.cell (p := ⟨b, o + j * 8 + 4, none⟩) hb1).trans c4
            have u5 := (hS.mem.bel.cell (p := ⟨b, o + j * 8 + 5, none⟩) hb1).trans c5
            have u6 := (hS.mem.bel.cell (p := ⟨b, o + j * 8 + 6, none⟩) hb1).trans c6
            have u7 := (hS.mem.bel.cell (p := ⟨b, o + j * 8 + 7, none⟩) hb1).trans c7
            go_simp
            exact hK.out _ _ (hS.val rfl rfl (Below.refl _ _) rfl)
          · intro L s w9 hN hU hi hS K hK
            dsimp only at hK ⊢
            simp only [Act.put, List.setIfInBounds_toArray, List.set_cons_zero, List.set_cons_succ] at hK
            go_simp
            exact hK.out _ _ (hS.val rfl rfl (Below.refl _ _) rfl)
          · intro L s w9 hN hU hi hS K hK
            dsimp only at hK ⊢
            simp only [Act.put, List.setIfInBounds_toArray, List.set_cons_zero, List.set_cons_succ] at hK
            go_simp
            exact hK.out _ _ (hS.val rfl rfl (Below.refl _ _) rfl)
          · intro L s w9 hN hU hi hS K hK
            dsimp only at hK ⊢
            simp only [Act.put, List.setIfInBounds_toArray, List.set_cons_zero, List.set_cons_succ] at hK
            have e4 : s 4 = .slice (some ⟨b', o', none⟩) lb.length d := hS.val_at 4 rfl (by decide) (hN.out 4 rfl)
            simp only [e4] at hK ⊢
            have e5 : s 5 = .int .i64 j := hS.val_at 5 rfl (by decide) (hN.out 5 rfl)
            simp only [e5] at hK ⊢
            go_simp
            exact hK.out _ _ (hS.val rfl rfl (Below.refl _ _) rfl)
          · intro L s w9 hN hU hi hS K hK
            dsimp only at hK ⊢
            simp only [Act.put, List.setIfInBounds_toArray, List.set_cons_zero, List.set_cons_succ] at hK
            have e6 : s 6 = .pointer (some ⟨b', o' + j * 8, none⟩) := hS.val_at 6 rfl (by decide) (hN.out 6 rfl)
            simp only [e6] at hK ⊢
            have u0 := (hS.mem.bel.cell (p := ⟨b', o' + j * 8, none⟩) hb2).trans k0
            have u1 := (hS.mem.bel.cell (p := ⟨b', o' + j * 8 + 1, none⟩) hb2).trans k1
            have u2 := (hS.mem.bel.cell (p := ⟨b', o' + j * 8 + 2, none⟩) hb2).trans k2
            have u3 := (hS.mem.bel.cell (p := ⟨b', o' + j * 8 + 3, none⟩) hb2).trans k3
            have u4 := (hS.mem.bel.cell (p := ⟨b', o' + j * 8 + 4, none⟩) hb2).trans k4
            have u5 := (hS.mem.bel.cell (p := ⟨b', o' + j * 8 + 5, none⟩) hb2).trans k5
            have u6 := (hS.mem.bel.cell (p := ⟨b', o' + j * 8 + 6, none⟩) hb2).trans k6
            have u7 := (hS.mem.bel.cell (p := ⟨b', o' + j * 8 + 7, none⟩) hb2).trans k7
            go_simp
            exact hK.out _ _ (hS.val rfl rfl (Below.refl _ _) rfl)
          · intro L s w9 hN hU hi hS K hK
            dsimp only at hK ⊢
            simp only [Act.put, List.setIfInBounds_toArray, List.set_cons_zero, List.set_cons_succ] at hK
            go_simp
            exact hK.out _ _ (hS.new rfl rfl hi.out (fun _ => hU.out 10 _ rfl rfl) rfl)
          · intro L s w9 hN hU hi hS K hK
            dsimp only at hK ⊢
            simp only [Act.put, List.setIfInBounds_toArray, List.set_cons_zero, List.set_cons_succ] at hK
            go_simp
            exact hK.out _ _ (hS.new rfl rfl hi.out (fun _ => hU.out 11 _ rfl rfl) rfl)
          · intro L s w9 hN hU hi hS K hK
            dsimp only at hK ⊢
            simp only [Act.put, List.setIfInBounds_toArray, List.set_cons_zero, List.set_cons_succ] at hK
            have e3 : s 3 = .agg #[.int .i64 xk, .string ⟨xn.toArray⟩, .bool xb, .slice A3 xd.length n3, .int .i64 xz, .bool xo, .slice A6 xv.length n6, .int .i64 xa] := hS.val_at 3 rfl (by decide) (hN.out 3 rfl)
            simp only [e3] at hK ⊢
            obtain ⟨g9, cs9, e9, l9, b9, n9, z9, _⟩ := hS.cell_at 8 rfl (by decide) (hN.out 8 rfl)
            obtain rfl := z9 hi.out
            simp only [e9] at hK ⊢
            refine ite_of rfl ?_
            refine wp_store_row _ _ _ rfl g9 _ rfl rfl _ _ b9 info_ritz rfl (by rw [← Array.all_toList]; rfl) ?_
            simp only [Act.put]
            exact hK.out undef _ (hS.fill (u := undef) (c := .fix (#[.int .i64 xk, .string ⟨xn.toArray⟩, .bool xb, .slice A3 xd.length n3, .int .i64 xz, .bool xo, .slice A6 xv.length n6, .int .i64 xa])) rfl rfl (by decide) rfl (hN.out 8 rfl) hi.out e9 (setRow_grown _ _ _) (b9.row _) rfl rfl)
          · intro L s w9 hN hU hi hS K hK
            dsimp only at hK ⊢
            simp only [Act.put, List.setIfInBounds_toArray, List.set_cons_zero, List.set_cons_succ] at hK
            have e7 : s 7 = .agg #[.int .i64 yk, .string ⟨yn.toArray⟩, .bool yb, .slice B3 yd.length m3, .int .i64 yz, .bool yo, .slice B6 yv.length m6, .int .i64 ya] := hS.val_at 7 rfl (by decide) (hN.out 7 rfl)
            simp only [e7] at hK ⊢
            obtain ⟨g9, cs9, e9, l9, b9, n9, z9, _⟩ := hS.cell_at 9 rfl (by decide) (hN.out 9 rfl)
            obtain rfl := z9 hi.out
            simp only [e9] at hK ⊢
            refine ite_of rfl ?_
            refine wp_store_row _ _ _ rfl g9 _ rfl rfl _ _ b9 info_ritz rfl (by rw [← Array.all_toList]; rfl) ?_
            simp only [Act.put]
            exact hK.out undef _ (hS.fill (u := undef) (c := .fix (#[.int .i64 yk, .string ⟨yn.toArray⟩, .bool yb, .slice B3 yd.length m3, .int .i64 yz, .bool yo, .slice B6 yv.length m6, .int .i64 ya])) rfl rfl (by decide) rfl (hN.out 9 rfl) hi.out e9 (setRow_grown _ _ _) (b9.row _) rfl rfl)
        intro L s w9 hall hS
        obtain ⟨g8, cs8, e8, l8, b8, n8, _, z8⟩ := hS.cell_at 8 rfl (by decide) (hall 8 (by decide))
        obtain rfl := z8 (hall 10 (by decide))
        rw [e8]
        obtain ⟨g9, cs9, e9, l9, b9, n9, _, z9⟩ := hS.cell_at 9 rfl (by decide) (hall 9 (by decide))
        obtain rfl := z9 (hall 11 (by decide))
        rw [e9]
        have hbl3 := hS.mem.bel
        have hbW : Below w.heap.size w w9 := below_trans hbl hbl3
        have hxd3 := Dt.below _ hxd hbl3 (Nat.le_refl _)
        have hxv3 := Dt.below _ hxv hbl3 (Nat.le_refl _)
        have hyd3 := Dt.below _ hyd hbl3 (Nat.le_refl _)
        have hyv3 := Dt.below _ hyv hbl3 (Nat.le_refl _)
        have kx := b8
        have ky := b9
        generalize w9 = W at *
        generalize g8 = gx at *
        generalize g9 = gy at *
        clear c0 c1 c2 c3 c4 c5 c6 c7 k0 k1 k2 k3 k4 k5 k6 k7 hb1 hb2 hbl3 hxd hxv hyd hyv hbl hS M hall b8 b9
        obtain ⟨f0, f1, f2, f3, f4, f5, f6, f7⟩ := Blk.eight kx
        obtain ⟨i0, i1, i2, i3, i4, i5, i6, i7⟩ := Blk.eight ky
        cases h1 : (xk != yk) with
        | true =>
          go_wp2_with fail
          go_ret
          exact ⟨retb (by rw [HT.out]; simp [itB, h1]), hbW⟩
        | false =>
          cases h2 : (xn == yn) with
          | false =>
            go_wp2_with fail
            go_ret
            exact ⟨retb (by rw [HT.out]; simp [itB, bne, h2]), hbW⟩
          | true =>
            cases h3 : (xb == yb) with
            | false =>
              go_wp2_with fail
              go_ret
              exact ⟨retb (by rw [HT.out]; simp [itB, bne, h3]), hbW⟩
            | true =>
              cases h4 : (xz != yz) with
              | true =>
                go_wp2_with fail
                go_ret
                exact ⟨retb (by rw [HT.out]; simp [itB, h4]), hbW⟩
              | false =>
                cases h5 : (xo == yo) with
                | false =>
                  go_wp2_with fail
                  go_ret
                  exact ⟨retb (by rw [HT.out]; simp [itB, bne, h5]), hbW⟩
                | true =>
                  cases h6 : (xa != ya) with
                  | true =>
                    go_wp2_with fail
                    go_ret
                    exact ⟨retb (by rw [HT.out]; simp [itB, h6]), hbW⟩
                  | false =>
                    by_cases h7 : xd.length = yd.length
                    · have d7 : ((xd.length : Int) != (yd.length : Int)) = false := by rw [h7]; simp
                      have hxB : itB ⟨xk, xn, xb, xd, xz, xo, xv, xa⟩ ⟨yk, yn, yb, yd, yz, yo, yv, ya⟩ = (exsB xv yv && domB xd yd) := by
                        unfold itB
                        dsimp only
                        rw [h1, h4, h6]
                        simp only [bne, h2, h3, h5, h7, beq_self_eq_true, Bool.not_true, Bool.or_self, Bool.not_false, Bool.true_and]
                      have HXB := Lib.hid hxB
                      have HL7 := Lib.hid h7
                      clear hxB h7
                      go_wp2_with fail
                      refine (rexprs_any A6 B6 n6 m6 xv yv W hxv3 hyv3 hm1.2.1 hm1.2.2).mono ?_
                      rintro e w8 ⟨rfl, q8⟩
                      have hbW8 := below_trans hbW q8
                      have kx8 := kx.below q8 (Nat.le_refl _)
                      have ky8 := ky.below q8 (Nat.le_refl _)
                      have hxd8 := Dt.below _ hxd3 q8 (Nat.le_refl _)
                      have hyd8 := Dt.below _ hyd3 q8 (Nat.le_refl _)
                      clear f0 f1 f2 f3 f4 f5 f6 f7 i0 i1 i2 i3 i4 i5 i6 i7 hxd3 hyd3 hxv3 hyv3 q8 kx ky
                      cases h8 : exsB xv yv with
                      | false =>
                        have H8 := Lib.hid h8
                        clear h8
                        go_wp2_with fail
                        go_ret
                        exact ⟨retb (by rw [HT.out, HXB.out, H8.out]; rfl), hbW8⟩
                      | true =>
                        have H8 := Lib.hid h8
                        clear h8
                        obtain ⟨f0, f1, f2, f3, f4, f5, f6, f7⟩ := Blk.eight kx8
                        obtain ⟨i0, i1, i2, i3, i4, i5, i6, i7⟩ := Blk.eight ky8
                        go_wp2_with fail
                        clear h1 h2 h3 h4 h5 h6 d7
                        go_loopg [8] xd.length (fun k a w6 => ∃ i, k = xd.length - i ∧ i ≤ xd.length ∧ a = .int .i64 (i : Nat) ∧ Hid (domB xd yd = domB (xd.drop i) (yd.drop i)) ∧ Below w8.heap.size w8 w6)
                        case atStart => exact ⟨0, rfl, Nat.zero_le _, rfl, rfl, Below.refl _ _⟩
                        case round =>
                          obtain ⟨i, hk2, hi, rfl, hT2, hb6⟩ := hrel
                          obtain ⟨f0, f1, f2, f3, f4, f5, f6, f7⟩ := Blk.eight (kx8.below hb6 (Nat.le_refl _))
                          obtain ⟨i0, i1, i2, i3, i4, i5, i6, i7⟩ := Blk.eight (ky8.below hb6 (Nat.le_refl _))
                          have hbV := below_trans hbW8 hb6
                          by_cases hlt3 : i < xd.length
                          · have hlt4 : i < yd.length := by have := HL7.out; omega
                            have d2 : decide ((i : Int) < (xd.length : Int)) = true := decide_eq_true (by omega)
                            obtain ⟨p, po, hA3, hp1, hcp⟩ := row_rg (Dt.below _ hxd8 hb6 (Nat.le_refl _)) (lt_ne hlt3)
                            obtain ⟨q, qo, hB3, hq1, hcq⟩ := row_rg (Dt.below _ hyd8 hb6 (Nat.le_refl _)) (lt_ne hlt4)
                            obtain ⟨p1, p2⟩ := hcp i hlt3
                            obtain ⟨q1, q2⟩ := hcq i hlt4
                            have ht2 := hT2.out.trans (domB_drop hlt3 hlt4)
                            clear hcp hcq hT2
                            generalize xd[i] = x0 at *
                            generalize yd[i] = y0 at *
                            obtain ⟨pl, ph⟩ := x0
                            obtain ⟨ql, qh⟩ := y0
                            dsimp only at p1 p2 q1 q2 ht2
                            have HT2 := Lib.hid ht2
                            clear ht2
                            subst hA3 hB3
                            by_cases h9 : pl = ql
                            · subst h9
                              by_cases h10 : ph = qh
                              · subst h10
                                have HT3 : Hid (domB xd yd = domB (xd.drop (i + 1)) (yd.drop (i + 1))) := by
                                  show _ = _
                                  rw [HT2.out, beq_self_eq_true, beq_self_eq_true]
                                  rfl
                                have hb9 := hb6.trans ((Read.refl _).drew.below _)
                                go_upto_region 12 with fail
                                go_region
                                go_wp2_with fail
                                go_roundg (xd.length - (i + 1))
                                case measure => omega
                                case rel => exact ⟨i + 1, rfl, by omega, by simp, HT3, hb9⟩
                              · have e10 : (ph == qh) = false := beq_eq_false_iff_ne.2 h10
                                have HT3 := Lib.hid e10
                                have hb9 := hbV.trans ((Read.refl _).drew.below _)
                                clear e10
                                go_upto_region 12 with fail
                                go_region
                                go_wp2_with fail
                                go_ret
                                exact ⟨retb (by rw [HT.out, HXB.out, H8.out, HT2.out, HT3.out, Bool.and_false, Bool.false_and, Bool.and_false, Bool.false_and]), hb9⟩
                            · have e10 : (pl == ql) = false := beq_eq_false_iff_ne.2 h9
                              have HT3 := Lib.hid e10
                              have hb9 := hbV.trans ((Read.refl _).drew.below _)
                              clear e10
                              go_upto_region 12 with fail
                              go_region
                              go_wp2_with fail
                              go_ret
                              exact ⟨retb (by rw [HT.out, HXB.out, H8.out, HT2.out, HT3.out, Bool.false_and, Bool.false_and, Bool.and_false, Bool.false_and]), hb9⟩
                          · have d2 : decide ((i : Int) < (xd.length : Int)) = false := decide_eq_false (by omega)
                            have e1 := hT2.out.trans (domB_end (by omega) (by have := HL7.out; omega))
                            have HT3 : Hid (itsB la lb = itsB (la.drop (j + 1)) (lb.drop (j + 1))) := by
                              show _ = _
                              rw [HT.out, HXB.out, H8.out, e1, Bool.true_and, Bool.true_and]
                            clear e1 hT2
                            go_wp2_with fail
                            go_roundg (la.length - (j + 1))
                            case measure => omega
                            case rel => exact ⟨j + 1, rfl, by omega, by simp, HT3, hbV⟩
                    · have d7 : ((xd.length : Int) != (yd.length : Int)) = true := ne_bool (by omega)
                      go_wp2_with fail
                      go_ret
                      exact ⟨retb (by rw [HT.out]; simp [itB, h7]), hbW⟩
      · have d1 : decide ((j : Int) < (la.length : Int)) = false := decide_eq_false (by omega)
        have e1 := hT.out.trans (itsB_end (by omega) (by have := HL.out; omega))
        have E1 := Lib.hid e1
        clear e1 hT
        go_wp2_with fail
        go_ret
        exact ⟨retb E1.out, hbl⟩
  · have d0 : ((la.length : Int) != (lb.length : Int)) = true := ne_bool (by omega)
    have E1 := Lib.hid (itsB_len hl)
    clear hl
    go_enter Tryz.func13, Tryz.ntmps13
    go_wp2_with fail
    go_ret
    exact ⟨retb E1.out, Below.refl _ _⟩
end Go.Proofs.YtpfhgkielakmoaaGreatDoor

/-
  Contracts of variable, par, goal.
-/
import Derived.Test.YtpfhgkielakmoaaDoorPh
set_option linter.unusedSimpArgs false
set_option linter.unusedVariables false
namespace Go.Proofs.YtpfhgkielakmoaaDoor
open Go.RowKit

theorem Blk.eight {w : World} {g : Nat} {ty : TypeId} {a b c d e f h i : Value} (k : Blk w g ty #[a, b, c, d, e, f, h, i]) : w.cell? ⟨g, 0, none⟩ = some a ∧ w.cell? ⟨g, 1, none⟩ = some b ∧ w.cell? ⟨g, 2, none⟩ = some c ∧ w.cell? ⟨g, 3, none⟩ = some d ∧
    w.cell? ⟨g, 4, none⟩ = some e ∧ w.cell? ⟨g, 5, none⟩ = some f ∧ w.cell? ⟨g, 6, none⟩ = some h ∧ w.cell? ⟨g, 7, none⟩ = some i :=
  ⟨k.cell 0, k.cell 1, k.cell 2, k.cell 3, k.cell 4, k.cell 5, k.cell 6, k.cell 7⟩
theorem setCell_alloc {w : World} {X : Nat} (h : X < w.heap.size) (i : Nat) (v : Value) (o : Obj) : (w.alloc o).setCell ⟨X, i, none⟩ v = (w.setCell ⟨X, i, none⟩ v).alloc o := by
  exact World.setCell_alloc_past o X i v h
/-- A row of one plain expression in a block of its own. -/
theorem row_one {F : Nat → Prop} {w : World} {N : Nat} {x : Ex} (hb : Blk w N 81 #[.int .i64 x.k, .int .i64 x.n, .string ⟨x.s.toArray⟩, .slice none 0 0]) (hx : x.l = []) (hF : F N) : (layE 81).row.P F w (.slice (some ⟨N, 0, none⟩) 1 1) [x] := by
  refine ⟨_, _, rfl, Nat.le_refl _, (by decide), fun _ => ⟨N, 0, rfl, hF, hb.lt, fun j hj k hk => ?_⟩⟩
  have hj1 : j = 0 := by simpa using hj
  subst hj1
  have hk4 : k < 4 := hk
  have e : (0 : Nat) + 0 * (layE 81).sz + k = k := by simp
  rw [e, hb.cell]
  match k, hk4 with
  | 0, _ => exact ⟨_, rfl, rfl⟩
  | 1, _ => exact ⟨_, rfl, rfl⟩
  | 2, _ => exact ⟨_, rfl, rfl⟩
  | 3, _ =>
    refine ⟨_, rfl, ?_⟩
    show (layE0 _).row.P _ _ _ x.l
    rw [hx]
    exact Lay.row_nil (Nat.zero_le _)
/-- The first two blocks of a function that makes an item. -/
theorem two_start {w : World} {g n : Nat} {l : List Tok} (h : Ps w g l n) (x : It) (hd : x.dom = []) (hv : x.vals = []) :
    Two w ((w.alloc (.cells zI 41)).alloc (.cells (icells x (.slice none 0 0) (.slice none 0 0)) 41)) g n w.heap.size (w.heap.size + 1) l x (.slice none 0 0) (.slice none 0 0) := by
  refine ⟨(h.alloc _).alloc _, (Blk.new w 41 zI).alloc _, Blk.at_ (by simp), ?_, ?_, grown_tr (World.grownBy_alloc _ _ _) (World.grownBy_alloc _ _ _), Nat.le_refl _, Nat.le_succ _, by omega, h.lt⟩
  · rw [hd]
    exact Lay.row_nil (Nat.zero_le _)
  · rw [hv]
    exact Lay.row_nil (Nat.zero_le _)
theorem gr2_one {a b c : World} {g X : Nat} (h : a.grownBy b (some g)) (q : Gr2 b c g X) (hX : a.heap.size ≤ X) : a.grownBy c (some g) :=
  ⟨q.1.trans h.os, q.2.1.trans h.tape, q.2.2.1.trans h.output, Nat.le_trans h.size q.2.2.2.1, fun k hk hne => (q.2.2.2.2 k (Nat.lt_of_lt_of_le hk h.size) (fun e => hne (by rw [e])) (by omega)).trans (h.block k hk hne)⟩
/-- A var's domain has been read. -/
theorem two_dom {w w1 w2 : World} {g n H X : Nat} {l l2 : List Tok} {d : Bool × List (Int × Int)} {D : Value} (T : Two w w1 g n H X l ⟨2, [], false, [], 0, false, [], 0⟩ (.slice none 0 0) (.slice none 0 0)) (q : Gr2 w1 w2 g X) (p : Ps w2 g l2 n) (b : Blk w2 X 41 (zV d.1 D)) (r : layR.row.P (since w1.heap.size w2) w2 D d.2) :
    Two w w2 g n H X l2 ⟨2, [], d.1, d.2, 0, false, [], 0⟩ D (.slice none 0 0) := by
  obtain ⟨z1, z2, z3⟩ := T.lt
  have hH := T.hH
  have hg := T.hg
  refine ⟨p, (q.2.2.2.2 H z1 (by omega) T.ne).trans T.res, b, ?_, Lay.row_nil (Nat.zero_le _), gr2_one T.gr q T.hX, T.hH, T.hX, T.ne, T.hg⟩
  exact layR.row.mono (fun k hk => ⟨Nat.le_trans z3 hk.1, hk.2, by have := hk.1; omega, by have := hk.1; omega⟩) r
set_option maxRecDepth 100000 in
set_option maxHeartbeats 4000000 in
theorem variable_any {g n : Nat} {l : List Tok} {w : World} (h : Ps w g l n) :
    Calls Tryd.prog 43 #[.pointer (some ⟨g, 0, none⟩)] w (PPost g n w (VIt w.heap.size) (variableP l)) := by
  have T0 := two_start h ⟨2, [], false, [], 0, false, [], 0⟩ rfl rfl
  have hg := h.lt
  have hX : g < w.heap.size + 1 := by omega
  go_enter Tryd.func43, Tryd.ntmps43
  go_wp2_with fail
  refine (dom_any T0.ps hX T0.it).mono ?_
  rintro e w2 ⟨q2, ⟨d, l2, D, e2, h2, rfl, b2, r2⟩ | ⟨c2, l2, e2, rfl⟩⟩
  · have T2 := two_dom T0 q2 h2 b2 r2
    obtain ⟨A, c, rfl⟩ := Lay.row_len r2
    go_wp2_with fail
    refine (taken1 ⟨#[58]⟩ h2).mono ?_
    rintro e w3 ⟨q3, ⟨u3, l3, e3, h3, v3, rfl, rfl⟩ | ⟨c3, l3, e3, rfl⟩⟩
    · have e3' : takeP [58] l2 = .ok u3 l3 := e3
      have T3 := T2.call q3 h3
      go_wp2_with fail
      refine (name_any h3).mono ?_
      rintro e w4 ⟨q4, ⟨nm, l4, e4, h4, v4, rfl, rfl⟩ | ⟨c4, l4, e4, rfl⟩⟩
      · have T4 := T3.call q4 h4
        have k4 : w4.cell? ⟨w.heap.size + 1, 1, none⟩ = some (.string ⟨#[]⟩) := T4.cell 1
        have f4 := T4.it.frozen 1
        have T5 := T4.name nm
        go_wp2_with fail
        refine (may_any ⟨#[58, 58]⟩ T5.ps).mono ?_
        rintro e w6 ⟨o, l6, e6, rfl, h6, q6⟩
        have e6' : mayP [58, 58] l4 = .ok o l6 := e6
        have T6 := T5.call q6 h6
        clear k4 f4
        cases o with
        | true =>
          go_wp2_with fail
          refine (taken1 ⟨wOutVar.toArray⟩ h6).mono ?_
          rintro e w7 ⟨q7, ⟨u7, l7, e7, h7, v7, rfl, rfl⟩ | ⟨c7, l7, e7, rfl⟩⟩
          · have e7' : takeP wOutVar l6 = .ok u7 l7 := e7
            have T7 := T6.call q7 h7
            have k7 : w7.cell? ⟨w.heap.size + 1, 5, none⟩ = some (.bool false) := T7.cell 5
            have f7 := T7.it.frozen 5
            have T8 := T7.out
            go_wp2_with fail
            clear k7 f7
            -- behind '='
            refine (may_any ⟨#[61]⟩ T8.ps).mono ?_
            rintro e w9 ⟨bv, l9, e9, rfl, h9, q9⟩
            have e9' : mayP [61] _ = .ok bv l9 := e9
            have T9 := T8.call q9 h9
            cases bv with
            | true =>
              go_wp2_with fail
              refine (plain_any h9).mono ?_
              rintro e w10 ⟨q10, ⟨x, l10, e10, h10, v, rfl, hx, rfl⟩ | ⟨c10, l10, e10, rfl⟩⟩
              · have T10 := T9.call q10 h10
                have T11 := T10.alloc (.cells #[.int .i64 x.k, .int .i64 x.n, .string ⟨x.s.toArray⟩, .slice none 0 0] 81)
                obtain ⟨z1, z2, z3⟩ := T10.lt
                have T12 := T11.put (V' := .slice (some ⟨w10.heap.size, 0, none⟩) 1 1) (xs := [x]) (row_one (Blk.new ..) hx ⟨z3, by simp, by omega, by omega⟩)
                have hW : (w10.alloc (.cells #[.int .i64 x.k, .int .i64 x.n, .string ⟨x.s.toArray⟩, .slice none 0 0] 81)).setCell ⟨w.heap.size + 1, 6, none⟩ (.slice (some ⟨w10.heap.size, 0, none⟩) 1 1) = (w10.setCell ⟨w.heap.size + 1, 6, none⟩ (.slice (some ⟨w10.heap.size, 0, none⟩) 1 1)).alloc (.cells #[.int .i64 x.k, .int .i64 x.n, .string ⟨x.s.toArray⟩, .slice none 0 0] 81) := setCell_alloc z2 _ _ _
                rw [hW] at T12
                obtain ⟨k0, k1, k2, k3, k4, k5, k6, k7⟩ := Blk.eight T12.it
                have k8 := T11.it.frozen 6
                have k9 : (w10.alloc (.cells #[.int .i64 x.k, .int .i64 x.n, .string ⟨x.s.toArray⟩, .slice none 0 0] 81)).cell? ⟨w.heap.size + 1, 6, none⟩ = some (.slice none 0 0) := T11.cell 6
                go_wp2_with ((with_reducible show wpList _ _ _ (Oper.mk none (Op.store _ _ _) _ _ _ _ :: _) _ _); refine wp_put (o := ⟨none, .store _ _ _, _, _, _, _⟩) _ _ T12.res rfl rfl rfl rfl info_it rfl rfl ?_; intro w20 b20 q20)
                obtain ⟨r0, r1, r2, r3, r4, r5, r6, r7⟩ := b20.eight
                refine bodyPost_ret (v := .agg (icells _ _ _)) (by simp [results, Tryd.results43, go_sem, r0, r1, r2, r3, r4, r5, r6, r7]; rfl) rfl (T12.done q20 ?_ rfl)
                simp only [variableP, pbind, e2, e3', e4, e6', if_true, e7', e9', if_true, e10, pret]
              · go_wp2_with fail
                refine ⟨rfl, grown_tr T9.gr q10, Or.inr ⟨c10, l10, ?_, rfl⟩⟩
                simp only [variableP, pbind, e2, e3', e4, e6', if_true, e7', e9', if_true, e10]
            | false =>
              obtain ⟨k0, k1, k2, k3, k4, k5, k6, k7⟩ := Blk.eight T9.it
              go_wp2_with ((with_reducible show wpList _ _ _ (Oper.mk none (Op.store _ _ _) _ _ _ _ :: _) _ _); refine wp_put (o := ⟨none, .store _ _ _, _, _, _, _⟩) _ _ T9.res rfl rfl rfl rfl info_it rfl rfl ?_; intro w20 b20 q20)
              obtain ⟨r0, r1, r2, r3, r4, r5, r6, r7⟩ := b20.eight
              refine bodyPost_ret (v := .agg (icells _ _ _)) (by simp [results, Tryd.results43, go_sem, r0, r1, r2, r3, r4, r5, r6, r7]; rfl) rfl (T9.done q20 ?_ rfl)
              simp only [variableP, pbind, e2, e3', e4, e6', if_true, e7', e9', Bool.false_eq_true, if_false, pret]
          · have e7' : takeP wOutVar l6 = .bad c7 l7 := e7
            go_wp2_with fail
            refine ⟨rfl, grown_tr T6.gr q7, Or.inr ⟨c7, l7, ?_, rfl⟩⟩
            simp only [variableP, pbind, e2, e3', e4, e6', if_true, e7']
        | false =>
          go_wp2_with fail
          -- behind '='
          refine (may_any ⟨#[61]⟩ T6.ps).mono ?_
          rintro e w9 ⟨bv, l9, e9, rfl, h9, q9⟩
          have e9' : mayP [61] _ = .ok bv l9 := e9
          have T9 := T6.call q9 h9
          cases bv with
          | true =>
            go_wp2_with fail
            refine (plain_any h9).mono ?_
            rintro e w10 ⟨q10, ⟨x, l10, e10, h10, v, rfl, hx, rfl⟩ | ⟨c10, l10, e10, rfl⟩⟩
            · have T10 := T9.call q10 h10
              have T11 := T10.alloc (.cells #[.int .i64 x.k, .int .i64 x.n, .string ⟨x.s.toArray⟩, .slice none 0 0] 81)
              obtain ⟨z1, z2, z3⟩ := T10.lt
              have T12 := T11.put (V' := .slice (some ⟨w10.heap.size, 0, none⟩) 1 1) (xs := [x]) (row_one (Blk.new ..) hx ⟨z3, by simp, by omega, by omega⟩)
              have hW : (w10.alloc (.cells #[.int .i64 x.k, .int .i64 x.n, .string ⟨x.s.toArray⟩, .slice none 0 0] 81)).setCell ⟨w.heap.size + 1, 6, none⟩ (.slice (some ⟨w10.heap.size, 0, none⟩) 1 1) = (w10.setCell ⟨w.heap.size + 1, 6, none⟩ (.slice (some ⟨w10.heap.size, 0, none⟩) 1 1)).alloc (.cells #[.int .i64 x.k, .int .i64 x.n, .string ⟨x.s.toArray⟩, .slice none 0 0] 81) := setCell_alloc z2 _ _ _
              rw [hW] at T12
              obtain ⟨k0, k1, k2, k3, k4, k5, k6, k7⟩ := Blk.eight T12.it
              have k8 := T11.it.frozen 6
              have k9 : (w10.alloc (.cells #[.int .i64 x.k, .int .i64 x.n, .string ⟨x.s.toArray⟩, .slice none 0 0] 81)).cell? ⟨w.heap.size + 1, 6, none⟩ = some (.slice none 0 0) := T11.cell 6
              go_wp2_with ((with_reducible show wpList _ _ _ (Oper.mk none (Op.store _ _ _) _ _ _ _ :: _) _ _); refine wp_put (o := ⟨none, .store _ _ _, _, _, _, _⟩) _ _ T12.res rfl rfl rfl rfl info_it rfl rfl ?_; intro w20 b20 q20)
              obtain ⟨r0, r1, r2, r3, r4, r5, r6, r7⟩ := b20.eight
              refine bodyPost_ret (v := .agg (icells _ _ _)) (by simp [results, Tryd.results43, go_sem, r0, r1, r2, r3, r4, r5, r6, r7]; rfl) rfl (T12.done q20 ?_ rfl)
              simp only [variableP, pbind, e2, e3', e4, e6', Bool.false_eq_true, if_false, pret, e9', if_true, e10, pret]
            · go_wp2_with fail
              refine ⟨rfl, grown_tr T9.gr q10, Or.inr ⟨c10, l10, ?_, rfl⟩⟩
              simp only [variableP, pbind, e2, e3', e4, e6', Bool.false_eq_true, if_false, pret, e9', if_true, e10]
          | false =>
            obtain ⟨k0, k1, k2, k3, k4, k5, k6, k7⟩ := Blk.eight T9.it
            go_wp2_with ((with_reducible show wpList _ _ _ (Oper.mk none (Op.store _ _ _) _ _ _ _ :: _) _ _); refine wp_put (o := ⟨none, .store _ _ _, _, _, _, _⟩) _ _ T9.res rfl rfl rfl rfl info_it rfl rfl ?_; intro w20 b20 q20)
            obtain ⟨r0, r1, r2, r3, r4, r5, r6, r7⟩ := b20.eight
            refine bodyPost_ret (v := .agg (icells _ _ _)) (by simp [results, Tryd.results43, go_sem, r0, r1, r2, r3, r4, r5, r6, r7]; rfl) rfl (T9.done q20 ?_ rfl)
            simp only [variableP, pbind, e2, e3', e4, e6', Bool.false_eq_true, if_false, pret, e9', Bool.false_eq_true, if_false, pret]
      · go_wp2_with fail
        refine ⟨rfl, grown_tr T3.gr q4, Or.inr ⟨c4, l4, ?_, rfl⟩⟩
        simp only [variableP, pbind, e2, e3', e4]
    · have e3' : takeP [58] l2 = .bad c3 l3 := e3
      go_wp2_with fail
      refine ⟨rfl, grown_tr T2.gr q3, Or.inr ⟨c3, l3, ?_, rfl⟩⟩
      simp only [variableP, pbind, e2, e3']
  · go_wp2_with fail
    refine ⟨rfl, gr2_one T0.gr q2 (by omega), Or.inr ⟨c2, l2, ?_, rfl⟩⟩
    simp only [variableP, pbind, e2]
end Go.Proofs.YtpfhgkielakmoaaDoor

/-
  Joined texts: Pi, Dab.
-/
import Derived.Test.YtpfhgkielakmoaaGreatDoorPh
import Derived.Test.YtpfhgkielakmoaaGreatDoorDat
import Derived.Laws.OwnMore
/-
  Contracts of variable, par, goal.
-/
set_option linter.unusedSimpArgs false
set_option linter.unusedVariables false
namespace Go.Proofs.YtpfhgkielakmoaaGreatDoor
open Go.RowKit

theorem Blk.eight {w : World} {g : Nat} {ty : TypeId} {a b c d e f h i : Value} (k : Blk w g ty #[a, b, c, d, e, f, h, i]) : w.cell? ⟨g, 0, none⟩ = some a ∧ w.cell? ⟨g, 1, none⟩ = some b ∧ w.cell? ⟨g, 2, none⟩ = some c ∧ w.cell? ⟨g, 3, none⟩ = some d ∧
    w.cell? ⟨g, 4, none⟩ = some e ∧ w.cell? ⟨g, 5, none⟩ = some f ∧ w.cell? ⟨g, 6, none⟩ = some h ∧ w.cell? ⟨g, 7, none⟩ = some i :=
  ⟨k.cell 0, k.cell 1, k.cell 2, k.cell 3, k.cell 4, k.cell 5, k.cell 6, k.cell 7⟩
theorem setCell_alloc {w : World} {X : Nat} (h : X < w.heap.size) (i : Nat) (v : Value) (o : Obj) : (w.alloc o).setCell ⟨X, i, none⟩ v = (w.setCell ⟨X, i, none⟩ v).alloc o := by
  exact World.setCell_alloc_past o X i v h
/-- A row of one plain expression in a block of its own. -/
theorem row_one {F : Nat → Prop} {w : World} {N : Nat} {x : Ex} (hb : Blk w N 102 #[.int .i64 x.k, .int .i64 x.n, .string ⟨x.s.toArray⟩, .slice none 0 0]) (hx : x.l = []) (hF : F N) : (layE 102).row.P F w (.slice (some ⟨N, 0, none⟩) 1 1) [x] := by
  refine ⟨_, _, rfl, Nat.le_refl _, (by decide), fun _ => ⟨N, 0, rfl, hF, hb.lt, fun j hj k hk => ?_⟩⟩
  have hj1 : j = 0 := by simpa using hj
  subst hj1
  have hk4 : k < 4 := hk
  have e : (0 : Nat) + 0 * (layE 102).sz + k = k := by simp
  rw [e, hb.cell]
  match k, hk4 with
  | 0, _ => exact ⟨_, rfl, rfl⟩
  | 1, _ => exact ⟨_, rfl, rfl⟩
  | 2, _ => exact ⟨_, rfl, rfl⟩
  | 3, _ =>
    refine ⟨_, rfl, ?_⟩
    show (layE0 _).row.P _ _ _ x.l
    rw [hx]
    exact Lay.row_nil (Nat.zero_le _)
/-- The first two blocks of a function that makes an item. -/
theorem two_start {w : World} {g n : Nat} {l : List Tok} (h : Ps w g l n) (x : It) (hd : x.dom = []) (hv : x.vals = []) :
    Two w ((w.alloc (.cells zI 47)).alloc (.cells (icells x (.slice none 0 0) (.slice none 0 0)) 47)) g n w.heap.size (w.heap.size + 1) l x (.slice none 0 0) (.slice none 0 0) := by
  refine ⟨(h.alloc _).alloc _, (Blk.new w 47 zI).alloc _, Blk.at_ (by simp), ?_, ?_, grown_tr (World.grownBy_alloc _ _ _) (World.grownBy_alloc _ _ _), Nat.le_refl _, Nat.le_succ _, by omega, h.lt⟩
  · rw [hd]
    exact Lay.row_nil (Nat.zero_le _)
  · rw [hv]
    exact Lay.row_nil (Nat.zero_le _)
theorem gr2_one {a b c : World} {g X : Nat} (h : a.grownBy b (some g)) (q : Gr2 b c g X) (hX : a.heap.size ≤ X) : a.grownBy c (some g) :=
  ⟨q.1.trans h.os, q.2.1.trans h.tape, q.2.2.1.trans h.output, Nat.le_trans h.size q.2.2.2.1, fun k hk hne => (q.2.2.2.2 k (Nat.lt_of_lt_of_le hk h.size) (fun e => hne (by rw [e])) (by omega)).trans (h.block k hk hne)⟩
/-- A var's domain has been read. -/
theorem two_dom {w w1 w2 : World} {g n H X : Nat} {l l2 : List Tok} {d : Bool × List (Int × Int)} {D : Value} (T : Two w w1 g n H X l ⟨2, [], false, [], 0, false, [], 0⟩ (.slice none 0 0) (.slice none 0 0)) (q : Gr2 w1 w2 g X) (p : Ps w2 g l2 n) (b : Blk w2 X 47 (zV d.1 D)) (r : layR.row.P (since w1.heap.size w2) w2 D d.2) :
    Two w w2 g n H X l2 ⟨2, [], d.1, d.2, 0, false, [], 0⟩ D (.slice none 0 0) := by
  obtain ⟨z1, z2, z3⟩ := T.lt
  have hH := T.hH
  have hg := T.hg
  refine ⟨p, (q.2.2.2.2 H z1 (by omega) T.ne).trans T.res, b, ?_, Lay.row_nil (Nat.zero_le _), gr2_one T.gr q T.hX, T.hH, T.hX, T.ne, T.hg⟩
  exact layR.row.mono (fun k hk => ⟨Nat.le_trans z3 hk.1, hk.2, by have := hk.1; omega, by have := hk.1; omega⟩) r
set_option maxRecDepth 100000 in
set_option maxHeartbeats 4000000 in
theorem variable_any {g n : Nat} {l : List Tok} {w : World} (h : Ps w g l n) :
    Calls Tryz.prog 78 #[.pointer (some ⟨g, 0, none⟩)] w (PPost g n w (VIt w.heap.size) (variableP l)) := by
  have T0 := two_start h ⟨2, [], false, [], 0, false, [], 0⟩ rfl rfl
  have hg := h.lt
  have hX : g < w.heap.size + 1 := by omega
  go_enter Tryz.func78, Tryz.ntmps78
  go_wp2_with fail
  refine (dom_any T0.ps hX T0.it).mono ?_
  rintro e w2 ⟨q2, ⟨d, l2, D, e2, h2, rfl, b2, r2⟩ | ⟨c2, l2, e2, rfl⟩⟩
  · have T2 := two_dom T0 q2 h2 b2 r2
    obtain ⟨A, c, rfl⟩ := Lay.row_len r2
    go_wp2_with fail
    refine (taken1 ⟨#[58]⟩ h2).mono ?_
    rintro e w3 ⟨q3, ⟨u3, l3, e3, h3, v3, rfl, rfl⟩ | ⟨c3, l3, e3, rfl⟩⟩
    · have e3' : takeP [58] l2 = .ok u3 l3 := e3
      have T3 := T2.call q3 h3
      go_wp2_with fail
      refine (name_any h3).mono ?_
      rintro e w4 ⟨q4, ⟨nm, l4, e4, h4, v4, rfl, rfl⟩ | ⟨c4, l4, e4, rfl⟩⟩
      · have T4 := T3.call q4 h4
        have k4 : w4.cell? ⟨w.heap.size + 1, 1, none⟩ = some (.string ⟨#[]⟩) := T4.cell 1
        have f4 := T4.it.frozen 1
        have T5 := T4.name nm
        go_wp2_with fail
        refine (may_any ⟨#[58, 58]⟩ T5.ps).mono ?_
        rintro e w6 ⟨o, l6, e6, rfl, h6, q6⟩
        have e6' : mayP [58, 58] l4 = .ok o l6 := e6
        have T6 := T5.call q6 h6
        clear k4 f4
        cases o with
        | true =>
          go_wp2_with fail
          refine (taken1 ⟨wOutVar.toArray⟩ h6).mono ?_
          rintro e w7 ⟨q7, ⟨u7, l7, e7, h7, v7, rfl, rfl⟩ | ⟨c7, l7, e7, rfl⟩⟩
          · have e7' : takeP wOutVar l6 = .ok u7 l7 := e7
            have T7 := T6.call q7 h7
            have k7 : w7.cell? ⟨w.heap.size + 1, 5, none⟩ = some (.bool false) := T7.cell 5
            have f7 := T7.it.frozen 5
            have T8 := T7.out
            go_wp2_with fail
            clear k7 f7
            -- behind '='
            refine (may_any ⟨#[61]⟩ T8.ps).mono ?_
            rintro e w9 ⟨bv, l9, e9, rfl, h9, q9⟩
            have e9' : mayP [61] _ = .ok bv l9 := e9
            have T9 := T8.call q9 h9
            cases bv with
            | true =>
              go_wp2_with fail
              refine (plain_any h9).mono ?_
              rintro e w10 ⟨q10, ⟨x, l10, e10, h10, v, rfl, hx, rfl⟩ | ⟨c10, l10, e10, rfl⟩⟩
              · have T10 := T9.call q10 h10
                have T11 := T10.alloc (.cells #[.int .i64 x.k, .int .i64 x.n, .string ⟨x.s.toArray⟩, .slice none 0 0] 102)
                obtain ⟨z1, z2, z3⟩ := T10.lt
                have T12 := T11.put (V' := .slice (some ⟨w10.heap.size, 0, none⟩) 1 1) (xs := [x]) (row_one (Blk.new ..) hx ⟨z3, by simp, by omega, by omega⟩)
                have hW : (w10.alloc (.cells #[.int .i64 x.k, .int .i64 x.n, .string ⟨x.s.toArray⟩, .slice none 0 0] 102)).setCell ⟨w.heap.size + 1, 6, none⟩ (.slice (some ⟨w10.heap.size, 0, none⟩) 1 1) = (w10.setCell ⟨w.heap.size + 1, 6, none⟩ (.slice (some ⟨w10.heap.size, 0, none⟩) 1 1)).alloc (.cells #[.int .i64 x.k, .int .i64 x.n, .string ⟨x.s.toArray⟩, .slice none 0 0] 102) := setCell_alloc z2 _ _ _
                rw [hW] at T12
                obtain ⟨k0, k1, k2, k3, k4, k5, k6, k7⟩ := Blk.eight T12.it
                have k8 := T11.it.frozen 6
                have k9 : (w10.alloc (.cells #[.int .i64 x.k, .int .i64 x.n, .string ⟨x.s.toArray⟩, .slice none 0 0] 102)).cell? ⟨w.heap.size + 1, 6, none⟩ = some (.slice none 0 0) := T11.cell 6
                go_wp2_with ((with_reducible show wpList _ _ _ (Oper.mk none (Op.store _ _ _) _ _ _ _ :: _) _ _); refine wp_put (o := ⟨none, .store _ _ _, _, _, _, _⟩) _ _ T12.res rfl rfl rfl rfl info_it rfl rfl ?_; intro w20 b20 q20)
                obtain ⟨r0, r1, r2, r3, r4, r5, r6, r7⟩ := b20.eight
                refine bodyPost_ret (v := .agg (icells _ _ _)) (by simp [results, Tryz.results78, go_sem, r0, r1, r2, r3, r4, r5, r6, r7]; rfl) rfl (T12.done q20 ?_ rfl)
                simp only [variableP, pbind, e2, e3', e4, e6', if_true, e7', e9', if_true, e10, pret]
              · go_wp2_with fail
                refine ⟨rfl, grown_tr T9.gr q10, Or.inr ⟨c10, l10, ?_, rfl⟩⟩
                simp only [variableP, pbind, e2, e3', e4, e6', if_true, e7', e9', if_true, e10]
            | false =>
              obtain ⟨k0, k1, k2, k3, k4, k5, k6, k7⟩ := Blk.eight T9.it
              go_wp2_with ((with_reducible show wpList _ _ _ (Oper.mk none (Op.store _ _ _) _ _ _ _ :: _) _ _); refine wp_put (o := ⟨none, .store _ _ _, _, _, _, _⟩) _ _ T9.res rfl rfl rfl rfl info_it rfl rfl ?_; intro w20 b20 q20)
              obtain ⟨r0, r1, r2, r3, r4, r5, r6, r7⟩ := b20.eight
              refine bodyPost_ret (v := .agg (icells _ _ _)) (by simp [results, Tryz.results78, go_sem, r0, r1, r2, r3, r4, r5, r6, r7]; rfl) rfl (T9.done q20 ?_ rfl)
              simp only [variableP, pbind, e2, e3', e4, e6', if_true, e7', e9', Bool.false_eq_true, if_false, pret]
          · have e7' : takeP wOutVar l6 = .bad c7 l7 := e7
            go_wp2_with fail
            refine ⟨rfl, grown_tr T6.gr q7, Or.inr ⟨c7, l7, ?_, rfl⟩⟩
            simp only [variableP, pbind, e2, e3', e4, e6', if_true, e7']
        | false =>
          go_wp2_with fail
          -- behind '='
          refine (may_any ⟨#[61]⟩ T6.ps).mono ?_
          rintro e w9 ⟨bv, l9, e9, rfl, h9, q9⟩
          have e9' : mayP [61] _ = .ok bv l9 := e9
          have T9 := T6.call q9 h9
          cases bv with
          | true =>
            go_wp2_with fail
            refine (plain_any h9).mono ?_
            rintro e w10 ⟨q10, ⟨x, l10, e10, h10, v, rfl, hx, rfl⟩ | ⟨c10, l10, e10, rfl⟩⟩
            · have T10 := T9.call q10 h10
              have T11 := T10.alloc (.cells #[.int .i64 x.k, .int .i64 x.n, .string ⟨x.s.toArray⟩, .slice none 0 0] 102)
              obtain ⟨z1, z2, z3⟩ := T10.lt
              have T12 := T11.put (V' := .slice (some ⟨w10.heap.size, 0, none⟩) 1 1) (xs := [x]) (row_one (Blk.new ..) hx ⟨z3, by simp, by omega, by omega⟩)
              have hW : (w10.alloc (.cells #[.int .i64 x.k, .int .i64 x.n, .string ⟨x.s.toArray⟩, .slice none 0 0] 102)).setCell ⟨w.heap.size + 1, 6, none⟩ (.slice (some ⟨w10.heap.size, 0, none⟩) 1 1) = (w10.setCell ⟨w.heap.size + 1, 6, none⟩ (.slice (some ⟨w10.heap.size, 0, none⟩) 1 1)).alloc (.cells #[.int .i64 x.k, .int .i64 x.n, .string ⟨x.s.toArray⟩, .slice none 0 0] 102) := setCell_alloc z2 _ _ _
              rw [hW] at T12
              obtain ⟨k0, k1, k2, k3, k4, k5, k6, k7⟩ := Blk.eight T12.it
              have k8 := T11.it.frozen 6
              have k9 : (w10.alloc (.cells #[.int .i64 x.k, .int .i64 x.n, .string ⟨x.s.toArray⟩, .slice none 0 0] 102)).cell? ⟨w.heap.size + 1, 6, none⟩ = some (.slice none 0 0) := T11.cell 6
              go_wp2_with ((with_reducible show wpList _ _ _ (Oper.mk none (Op.store _ _ _) _ _ _ _ :: _) _ _); refine wp_put (o := ⟨none, .store _ _ _, _, _, _, _⟩) _ _ T12.res rfl rfl rfl rfl info_it rfl rfl ?_; intro w20 b20 q20)
              obtain ⟨r0, r1, r2, r3, r4, r5, r6, r7⟩ := b20.eight
              refine bodyPost_ret (v := .agg (icells _ _ _)) (by simp [results, Tryz.results78, go_sem, r0, r1, r2, r3, r4, r5, r6, r7]; rfl) rfl (T12.done q20 ?_ rfl)
              simp only [variableP, pbind, e2, e3', e4, e6', Bool.false_eq_true, if_false, pret, e9', if_true, e10, pret]
            · go_wp2_with fail
              refine ⟨rfl, grown_tr T9.gr q10, Or.inr ⟨c10, l10, ?_, rfl⟩⟩
              simp only [variableP, pbind, e2, e3', e4, e6', Bool.false_eq_true, if_false, pret, e9', if_true, e10]
          | false =>
            obtain ⟨k0, k1, k2, k3, k4, k5, k6, k7⟩ := Blk.eight T9.it
            go_wp2_with ((with_reducible show wpList _ _ _ (Oper.mk none (Op.store _ _ _) _ _ _ _ :: _) _ _); refine wp_put (o := ⟨none, .store _ _ _, _, _, _, _⟩) _ _ T9.res rfl rfl rfl rfl info_it rfl rfl ?_; intro w20 b20 q20)
            obtain ⟨r0, r1, r2, r3, r4, r5, r6, r7⟩ := b20.eight
            refine bodyPost_ret (v := .agg (icells _ _ _)) (by simp [results, Tryz.results78, go_sem, r0, r1, r2, r3, r4, r5, r6, r7]; rfl) rfl (T9.done q20 ?_ rfl)
            simp only [variableP, pbind, e2, e3', e4, e6', Bool.false_eq_true, if_false, pret, e9', Bool.false_eq_true, if_false, pret]
      · go_wp2_with fail
        refine ⟨rfl, grown_tr T3.gr q4, Or.inr ⟨c4, l4, ?_, rfl⟩⟩
        simp only [variableP, pbind, e2, e3', e4]
    · have e3' : takeP [58] l2 = .bad c3 l3 := e3
      go_wp2_with fail
      refine ⟨rfl, grown_tr T2.gr q3, Or.inr ⟨c3, l3, ?_, rfl⟩⟩
      simp only [variableP, pbind, e2, e3']
  · go_wp2_with fail
    refine ⟨rfl, gr2_one T0.gr q2 (by omega), Or.inr ⟨c2, l2, ?_, rfl⟩⟩
    simp only [variableP, pbind, e2]
end Go.Proofs.YtpfhgkielakmoaaGreatDoor
/-
  Rows of the call's own, one behind the other.
-/
set_option linter.unusedSimpArgs false
set_option linter.unusedVariables false
namespace Go.Proofs.YtpfhgkielakmoaaGreatDoor
open Go.RowKit

/-- 'append(a, b...)': both are the call's own rows, b made behind a. -/
theorem Lay.wp_app2 {α : Type} (L : Lay α) {P : Program} {ops : Array Oper} {rest : List Oper} {o : Oper} {a : Act} {Q : Exit → Act → World → Prop} (s x : Operand) (w : World) (base base2 : Nat) (v u : Value) (l m : List α) {sl bytes : Nat} {z : Value}
    (hu : P.underlying sl = some (.slice L.ty)) (hinfo : (P.info? L.ty).map (fun i => (i.zero, i.size, i.bytes)) = some (some z, L.sz, bytes)) (hz : z.cells.size = L.sz) (hpos : 0 < L.sz) (hbt : bytes ≤ 1000)
    (hown : L.own base w v l) (hm : L.own base2 w u m) (hbb : base ≤ base2) (hv2 : ∀ g, v.ownBlock = some g → g < base2) (hb : base ≤ w.heap.size) (hlen : l.length ≤ 1000000) (hlen2 : m.length ≤ 1000000)
    (hw : Region.wanted o (yielded ops a.tmps) = true) (ho : o.op = .call { callee := .builtin .append, args := #[s, x], argTypes := #[sl, sl] })
    (hs : a.eval s = v) (hx : a.eval x = u)
    (K : ∀ v' w', L.own base w' v' (l ++ m) → w.grownBy w' v.ownBlock → Below base w w' → wpList P ops Q rest (a.put o.dst v') w') :
    wpList P ops Q (o :: rest) a w := by
  obtain ⟨xs, h1, h1', h2⟩ := hown
  obtain ⟨ys, m1, m1', m2⟩ := hm
  obtain ⟨i0, hi, hz0, hz1, hz2⟩ := info_parts hinfo
  refine wpList_wanted hw fun KK hKK => ?_
  obtain ⟨ml, m3⟩ := m1
  rcases m3 with ⟨hu0, hl0⟩ | ⟨g, cap, cur, hu0, hg, hbk, hn, hc, hsz, htk⟩
  · obtain rfl : m = [] := List.length_eq_zero_iff.1 hl0
    subst hu0
    have hrun := run_append_owned_none (P := P) (w := w) base sl o.type L.ty i0 L.sz hu hi v l.length xs h1
    unfold Oper.wp
    simp [execOp, ho, resolve, invoke, builtin, hs, hx, hrun, Result.andThen]
    refine hKK _ _ (K v w ?_ ⟨rfl, rfl, rfl, Nat.le_refl _, fun _ _ _ => rfl⟩ (Below.refl _ _))
    rw [List.append_nil]
    exact ⟨xs, h1, h1', h2⟩
  · subst hu0
    have hcell : ∀ j u, ys[j]? = some u → w.cell? ((⟨g, 0, none⟩ : Addr).add j) = some u := by
      intro j u hj
      have hjl : j < ys.length := (List.getElem?_eq_some_iff.1 hj).1
      rw [show (⟨g, 0, none⟩ : Addr).add j = ⟨g, j, none⟩ by simp [Addr.add]; exact fun e => e.symm, cell_of_row w g _ cur L.ty (0, 0) hbk, ← hj, ← htk, List.getElem?_take_of_lt (by omega)]
      simp
    obtain ⟨v', w', hr, r1, r2, _, r3⟩ := run_append_own_at (P := P) w base sl o.type L.ty i0 z L.sz bytes hu hi hz0 hz1 hz2 hz hpos v l.length xs h1 ⟨g, 0, none⟩ m.length cap ys ml hcell m1' (by unfold maxLen; omega) (Nat.le_trans (Nat.mul_le_mul_left _ hbt) (by omega)) hb
    unfold Oper.wp execOp
    simp only [ho, resolve, invoke, builtin, Sem.run_bind, Sem.run_pure, Result.andThen_ok, List.map_toArray, List.map_cons, List.map_nil, hs, hx, hr]
    have hF : ∀ b, inF base w v b → inF base w' v' b := fun b hb => ⟨hb.1, Nat.lt_of_lt_of_le hb.2.1 r2.size, fun e => by
      rcases r3 with e2 | e2
      · exact hb.2.2 (e2.symm.trans e)
      · rw [e2] at e
        injection e with e
        have := hb.2.1
        omega⟩
    have hF2 : ∀ b, inF base2 w (.slice (some ⟨g, 0, none⟩) m.length cap) b → inF base w' v' b := fun b hb => ⟨Nat.le_trans hbb hb.1, Nat.lt_of_lt_of_le hb.2.1 r2.size, fun e => by
      have := hb.1
      have := hb.2.1
      rcases r3 with e2 | e2
      · have := hv2 b (e2.symm.trans e)
        omega
      · rw [e2] at e
        injection e with e
        omega⟩
    refine hKK _ _ (K v' w' ⟨xs ++ ys, by rw [List.length_append]; exact r1, fun u hu => ?_, fun j hj k hk => ?_⟩ r2 ((Below.refl base w).grown r2 hb (fun k hk => (World.ownsRow.lt h1 k hk).1)))
    · rcases List.mem_append.1 hu with hu | hu
      · exact h1' u hu
      · exact m1' u hu
    · have hxl : xs.length = l.length * L.sz := h1.1
      by_cases hjl : j < l.length
      · obtain ⟨u, hu, hp⟩ := h2 j hjl k hk
        refine ⟨u, ?_, ?_⟩
        · rw [List.getElem?_append_left (by
            have : (j + 1) * L.sz ≤ l.length * L.sz := Nat.mul_le_mul_right _ hjl
            rw [Nat.add_mul, Nat.one_mul] at this
            omega)]
          exact hu
        · rw [List.getElem_append_left hjl]
          exact (L.C k).mono hF ((L.C k).grown hp r2 fun b hb e => hb.2.2 e.symm)
      · have hj2 : j - l.length < m.length := by rw [List.length_append] at hj; omega
        obtain ⟨u, hu, hp⟩ := m2 (j - l.length) hj2 k hk
        refine ⟨u, ?_, ?_⟩
        · have e : j * L.sz + k = l.length * L.sz + ((j - l.length) * L.sz + k) := by
            rw [← Nat.add_assoc, ← Nat.add_mul]
            congr 2
            omega
          rw [e, List.getElem?_append_right (by omega), hxl, Nat.add_sub_cancel_left]
          exact hu
        · rw [List.getElem_append_right (by omega)]
          exact (L.C k).mono hF2 ((L.C k).grown hp r2 fun b hb e => by
            have := hv2 b e.symm
            have := hb.1
            omega)
end Go.Proofs.YtpfhgkielakmoaaGreatDoor

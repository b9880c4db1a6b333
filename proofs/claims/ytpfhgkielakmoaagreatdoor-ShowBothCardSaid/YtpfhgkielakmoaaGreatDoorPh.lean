/-
  Contracts of dom, truth, variable.
-/
import Derived.Test.YtpfhgkielakmoaaGreatDoorPg
set_option linter.unusedSimpArgs false
set_option linter.unusedVariables false
namespace Go.Proofs.YtpfhgkielakmoaaGreatDoor
open Go.RowKit

/-- Of what was there two blocks alone may have turned. -/
def Gr2 (w w' : World) (g X : Nat) : Prop := w'.os = w.os ∧ w'.tape = w.tape ∧ w'.output = w.output ∧ w.heap.size ≤ w'.heap.size ∧ ∀ b, b < w.heap.size → b ≠ g → b ≠ X → w'.heap[b]? = w.heap[b]?
theorem Gr2.refl (w : World) (g X : Nat) : Gr2 w w g X := ⟨rfl, rfl, rfl, Nat.le_refl _, fun _ _ _ _ => rfl⟩
theorem Gr2.one {a b c : World} {g X : Nat} (h : Gr2 a b g X) (q : b.grownBy c (some g)) : Gr2 a c g X :=
  ⟨q.os.trans h.1, q.tape.trans h.2.1, q.output.trans h.2.2.1, Nat.le_trans h.2.2.2.1 q.size, fun k hk h1 h2 => (q.block k (Nat.lt_of_lt_of_le hk h.2.2.2.1) (fun e => h1 (by injection e))).trans (h.2.2.2.2 k hk h1 h2)⟩
theorem Gr2.two {a b c : World} {g X : Nat} (h : Gr2 a b g X) (q : b.grownBy c (some X)) : Gr2 a c g X :=
  ⟨q.os.trans h.1, q.tape.trans h.2.1, q.output.trans h.2.2.1, Nat.le_trans h.2.2.2.1 q.size, fun k hk h1 h2 => (q.block k (Nat.lt_of_lt_of_le hk h.2.2.2.1) (fun e => h2 (by injection e))).trans (h.2.2.2.2 k hk h1 h2)⟩
theorem Gr2.below {a b c : World} {g X B : Nat} (h : Gr2 a b g X) (q : Below B b c) (hB : a.heap.size ≤ B) : Gr2 a c g X :=
  ⟨q.os.trans h.1, q.tape.trans h.2.1, q.output.trans h.2.2.1, Nat.le_trans h.2.2.2.1 q.size, fun k hk h1 h2 => (q.block k (Nat.lt_of_lt_of_le hk hB)).trans (h.2.2.2.2 k hk h1 h2)⟩
/-- A var's cells while its domain is read. -/
def zV (b : Bool) (D : Value) : Array Value := #[.int .i64 2, .string ⟨#[]⟩, .bool b, D, .int .i64 0, .bool false, .slice none 0 0, .int .i64 0]
theorem info_rng : (Tryz.prog.info? 44).map (fun i => (i.zero, i.size, i.bytes)) = some (some (.agg #[.int .i64 0, .int .i64 0]), 2, 16) := by kernel_rfl
def DomPost (g n X : Nat) (w : World) (r : PR (Bool × List (Int × Int))) (e : Ending) (w' : World) : Prop :=
  Gr2 w w' g X ∧ ((∃ d l D, r = .ok d l ∧ Ps w' g l n ∧ e = .returned (.tuple #[]) ∧ Blk w' X 47 (zV d.1 D) ∧ layR.row.P (since w.heap.size w') w' D d.2) ∨ (∃ c l, r = .bad c l ∧ Threw n l c e))
set_option maxRecDepth 100000 in
set_option maxHeartbeats 4000000 in
theorem dom_any {g n X : Nat} {l : List Tok} {w : World} (h : Ps w g l n) (hX : g < X) (hx : Blk w X 47 (zV false (.slice none 0 0))) :
    Calls Tryz.prog 119 #[.pointer (some ⟨g, 0, none⟩), .pointer (some ⟨X, 0, none⟩)] w (DomPost g n X w (domP l)) := by
  have hg := h.lt
  have hXl := hx.lt
  go_enter Tryz.func119, Tryz.ntmps119
  go_wp2_with fail
  refine (may_any ⟨wBool.toArray⟩ h).mono ?_
  rintro e w1 ⟨b, l1, e1, rfl, h1, q1⟩
  have e1' : mayP wBool l = .ok b l1 := e1
  have b1 := hx.turn q1 (by omega)
  have g1 := (Gr2.refl w g X).one q1
  cases b with
  | true =>
    have c1 : w1.cell? ⟨X, 2, none⟩ = some (.bool false) := b1.cell 2
    have c2 := b1.frozen 2
    go_wp2_with fail
    go_end0
    refine ⟨g1.two (grown_set w1 ⟨X, 2, none⟩ _), Or.inl ⟨(true, []), l1, .slice none 0 0, ?_, h1.grown (grown_set w1 ⟨X, 2, none⟩ _) hX, rfl, b1.set_ 2 _, Lay.row_nil (Nat.zero_le _)⟩⟩
    show pbind (mayP wBool) _ l = _
    simp only [pbind, e1', if_true]
    rfl
  | false =>
    have HP : Hid (domP l = (pbind (mayP [123]) fun b => if b then pbind (domGo 256 []) fun d => pret (false, d) else
        pbind numberP fun lo => pbind (takeP [46, 46]) fun _ => pbind numberP fun hi => pret (false, [(lo, hi)])) l1) := by
      show pbind (mayP wBool) _ l = _
      simp only [pbind, e1', Bool.false_eq_true, if_false]
    go_wp2_with fail
    refine (may_any ⟨#[123]⟩ h1).mono ?_
    rintro e w2 ⟨b, l2, e2, rfl, h2, q2⟩
    have e2' : mayP [123] l1 = .ok b l2 := e2
    have b2 := b1.turn q2 (by omega)
    have g2 := g1.one q2
    clear g1 b1 h1 e1 e1'
    cases b with
    | true =>
      have HP2 : Hid (domP l = pbind (domGo 256 []) (fun d => pret (false, d)) l2) := by
        show _ = _
        rw [HP.out]
        simp only [pbind, e2', if_true]
      clear HP e2 e2'
      go_wp2_with fail
      go_loopg [] (257) (fun k wr => ∃ (d : List (Int × Int)) (l' : List Tok) (D : Value), k = 257 - d.length ∧ d.length ≤ 256 ∧ Hid (domP l = pbind (domGo (256 - d.length) d) (fun d => pret (false, d)) l') ∧ Blk wr X 47 (zV false D) ∧ layR.own w.heap.size wr D d ∧ Ps wr g l' n ∧ Gr2 w wr g X)
      case atStart => exact ⟨[], l2, _, rfl, Nat.zero_le _, HP2.out, b2, Lay.own_nil _ _ _, h2, g2⟩
      case round =>
        obtain ⟨d, l', D, hk, hd, hT, hb, ho, hps, hq⟩ := hrel
        have hws : w.heap.size ≤ wr.heap.size := hq.2.2.2.1
        obtain ⟨A, c, rfl⟩ := Lay.own_len ho
        have c1 : wr.cell? ⟨X, 3, none⟩ = some (.slice A d.length c) := hb.cell 3
        clear h2 b2 g2 HP2
        by_cases hd2 : d.length = 256
        · have d1 : ((d.length : Int) == 256) = true := by rw [hd2]; rfl
          have hT2 := hT.out
          rw [hd2] at hT2
          have HT2 := Lib.hid hT2
          clear hT hT2
          go_wp2_with fail
          refine (throw_any 3 hps).mono ?_
          rintro e w3 ⟨rfl, q3⟩
          go_wp2_with fail
          exact ⟨rfl, hq.one q3, Or.inr ⟨3, l', HT2.out, rfl⟩⟩
        · have d1 : ((d.length : Int) == 256) = false := beq_eq_false_iff_ne.2 (by omega)
          obtain ⟨j, hj⟩ : ∃ j, 256 - d.length = j + 1 := ⟨255 - d.length, by omega⟩
          have hT2 := hT.out
          rw [hj] at hT2
          have HT2 : Hid (domP l = pbind (domGo (j + 1) d) (fun d => pret (false, d)) l') := hT2
          have HJ := Lib.hid hj
          clear hT hT2 hj
          go_wp2_with fail
          refine (number_any hps).mono ?_
          rintro e w3 ⟨q3, ⟨m, l3, e3, h3, v3, rfl, rfl⟩ | ⟨c3, l3, e3, rfl⟩⟩
          · have ho3 : layR.own w.heap.size w3 (.slice A d.length c) d := Lay.own_grown ho q3 (fun k e => by injection e with e; omega)
            have hb3 := hb.turn q3 (by omega)
            have g3 := hq.one q3
            have hsz3 := q3.size
            have hwb : w.heap.size ≤ w3.heap.size := by omega
            have c3 : w3.cell? ⟨X, 3, none⟩ = some (.slice A d.length c) := hb3.cell 3
            have hnew : ∀ k, k < layR.sz → ∃ u, [Value.int .i64 m, .int .i64 m][k]? = some u ∧ (layR.C k).P (inF w.heap.size w3 (.slice A d.length c)) w3 u (m, m) := fun k hk => by
              have hk2 : k < 2 := hk
              match k, hk2 with
              | 0, _ => exact ⟨_, rfl, rfl⟩
              | 1, _ => exact ⟨_, rfl, rfl⟩
            have HN := Lib.hid hnew
            clear hnew
            go_wp2_with (at_builtin; refine Lay.wp_app layR _ _ w3 w.heap.size _ d (m, m) #[Value.int .i64 m, .int .i64 m] rfl Tryz.underlying25 info_rng rfl (by decide) (by decide) ho3 hwb (by omega) rfl rfl HN.out rfl rfl rfl rfl ?_; intro v4 w4 ho4 hg4 hb4 _; refine stop_of ?_)
            unfold Stop
            have b4 : Blk w4 X 47 (zV false (.slice A d.length c)) := (hb4.block X hXl).trans hb3
            have c4 : w4.cell? ⟨X, 3, none⟩ = some (.slice A d.length c) := b4.cell 3
            have f4 := b4.frozen 3
            obtain ⟨A4, k4, hv4⟩ := Lay.own_len ho4
            subst hv4
            generalize hq4 : (Value.slice A4 (d ++ [(m, m)]).length k4) = v4 at *
            have hv4 : ∃ A c n, v4 = .slice A n c := ⟨_, _, _, hq4.symm⟩
            clear hq4
            obtain ⟨A4, k4, n4, rfl⟩ := hv4
            go_wp2_with fail
            have h4 := (h3.belowB hb4 hg).grown (grown_set w4 ⟨X, 3, none⟩ (.slice A4 n4 k4)) hX
            have g4 := (g3.below hb4 (Nat.le_refl _)).two (grown_set w4 ⟨X, 3, none⟩ (.slice A4 n4 k4))
            have b5 : Blk (w4.setCell ⟨X, 3, none⟩ (.slice A4 n4 k4)) X 47 (zV false (.slice A4 n4 k4)) := b4.set_ 3 (.slice A4 n4 k4)
            have ho5 := Lay.own_grown ho4 (grown_set w4 ⟨X, 3, none⟩ (.slice A4 n4 k4)) (fun k e => by injection e with e; subst e; exact hXl)
            refine (may_any ⟨#[125]⟩ h4).mono ?_
            rintro e w6 ⟨b, l6, e6, rfl, h6, q6⟩
            have e6' : mayP [125] l3 = .ok b l6 := e6
            have b6 := b5.turn q6 (by omega)
            have g6 := g4.one q6
            have ho6 := Lay.own_grown ho5 q6 (fun k e => by injection e with e; omega)
            cases b with
            | true =>
              go_wp2_with fail
              go_end0
              refine ⟨g6, Or.inl ⟨(false, d ++ [(m, m)]), l6, .slice A4 n4 k4, ?_, h6, rfl, b6, Lay.own_row ho6⟩⟩
              rw [HT2.out]
              simp only [domGo, pbind, e3, e6', if_true]
              rfl
            | false =>
              go_wp2_with fail
              refine (taken1 ⟨#[44]⟩ h6).mono ?_
              rintro e w7 ⟨q7, ⟨u, l7, e7, h7, v7, rfl, rfl⟩ | ⟨c7, l7, e7, rfl⟩⟩
              · have e7' : takeP [44] l6 = .ok u l7 := e7
                go_wp2_with fail
                go_roundg (257 - (d.length + 1))
                case measure => omega
                case rel =>
                  refine ⟨d ++ [(m, m)], l7, .slice A4 n4 k4, by simp, by simp; omega, ?_, b6.turn q7 (by omega), Lay.own_grown ho6 q7 (fun k e => by injection e with e; omega), h7, g6.one q7⟩
                  show _ = _
                  rw [HT2.out, show 256 - (d ++ [(m, m)]).length = j by rw [List.length_append, List.length_singleton]; have := HJ.out; omega]
                  simp only [domGo, pbind, e3, e6', Bool.false_eq_true, if_false, e7']
              · have e7' : takeP [44] l6 = .bad c7 l7 := e7
                go_wp2_with fail
                refine ⟨rfl, g6.one q7, Or.inr ⟨c7, l7, ?_, rfl⟩⟩
                rw [HT2.out]
                simp only [domGo, pbind, e3, e6', Bool.false_eq_true, if_false, e7']
          · go_wp2_with fail
            refine ⟨rfl, hq.one q3, Or.inr ⟨c3, l3, ?_, rfl⟩⟩
            rw [HT2.out]
            simp only [domGo, pbind, e3]
    | false =>
      have HP2 : Hid (domP l = (pbind numberP fun lo => pbind (takeP [46, 46]) fun _ => pbind numberP fun hi => pret (false, [(lo, hi)])) l2) := by
        show _ = _
        rw [HP.out]
        simp only [pbind, e2', Bool.false_eq_true, if_false]
      clear HP e2 e2'
      go_wp2_with fail
      refine (number_any h2).mono ?_
      rintro e w3 ⟨q3, ⟨lo, l3, e3, h3, v3, rfl, rfl⟩ | ⟨c3, l3, e3, rfl⟩⟩
      · go_wp2_with fail
        refine (taken1 ⟨#[46, 46]⟩ h3).mono ?_
        rintro e w4 ⟨q4, ⟨u, l4, e4, h4, v4, rfl, rfl⟩ | ⟨c4, l4, e4, rfl⟩⟩
        · have e4' : takeP [46, 46] l3 = .ok u l4 := e4
          go_wp2_with fail
          refine (number_any h4).mono ?_
          rintro e w5 ⟨q5, ⟨hi, l5, e5, h5, v5, rfl, rfl⟩ | ⟨c5, l5, e5, rfl⟩⟩
          · have b5 := ((b2.turn q3 (by omega)).turn q4 (by omega)).turn q5 (by omega)
            have g5 := ((g2.one q3).one q4).one q5
            have z5 : w.heap.size ≤ w5.heap.size := g5.2.2.2.1
            have b6 := b5.alloc (.cells #[.int .i64 lo, .int .i64 hi] 44)
            have c6 : (w5.alloc (.cells #[.int .i64 lo, .int .i64 hi] 44)).cell? ⟨X, 3, none⟩ = some (.slice none 0 0) := b6.cell 3
            have f6 := b6.frozen 3
            have k6 : Blk (w5.alloc (.cells #[.int .i64 lo, .int .i64 hi] 44)) w5.heap.size 44 #[.int .i64 lo, .int .i64 hi] := Blk.new ..
            go_wp2_with fail
            go_end0
            refine ⟨(g5.below (below_alloc1 w5 _) z5).two (grown_set _ ⟨X, 3, none⟩ _), Or.inl ⟨(false, [(lo, hi)]), l5, _, ?_, (h5.alloc _).grown (grown_set _ ⟨X, 3, none⟩ _) hX, rfl, b6.set_ 3 _, ?_⟩⟩
            · rw [HP2.out]
              simp only [pbind, e3, e4', e5]
              rfl
            · have k7 := k6.turn (grown_set _ ⟨X, 3, none⟩ (.slice (some ⟨w5.heap.size, 0, none⟩) 1 1)) (show w5.heap.size ≠ X by omega)
              refine ⟨_, _, rfl, Nat.le_refl _, (by decide), fun _ => ⟨w5.heap.size, 0, rfl, ⟨z5, k7.lt⟩, k7.lt, fun j hj k hk => ?_⟩⟩
              have hj1 : j = 0 := by simpa using hj
              subst hj1
              have hk2 : k < 2 := hk
              rw [k7.cell]
              match k, hk2 with
              | 0, _ => exact ⟨_, rfl, rfl⟩
              | 1, _ => exact ⟨_, rfl, rfl⟩
          · go_wp2_with fail
            refine ⟨rfl, ((g2.one q3).one q4).one q5, Or.inr ⟨c5, l5, ?_, rfl⟩⟩
            rw [HP2.out]
            simp only [pbind, e3, e4', e5]
        · have e4' : takeP [46, 46] l3 = .bad c4 l4 := e4
          go_wp2_with fail
          refine ⟨rfl, (g2.one q3).one q4, Or.inr ⟨c4, l4, ?_, rfl⟩⟩
          rw [HP2.out]
          simp only [pbind, e3, e4']
      · go_wp2_with fail
        refine ⟨rfl, g2.one q3, Or.inr ⟨c3, l3, ?_, rfl⟩⟩
        rw [HP2.out]
        simp only [pbind, e3]
set_option maxRecDepth 100000 in
theorem truth_any {g n : Nat} {l : List Tok} {w : World} (h : Ps w g l n) :
    Calls Tryz.prog 115 #[.pointer (some ⟨g, 0, none⟩)] w (PPost g n w VB (truthP l)) := by
  go_enter Tryz.func115, Tryz.ntmps115
  go_wp2_with fail
  refine (may_any ⟨wBool.toArray⟩ h).mono ?_
  rintro e w1 ⟨b, l1, e1, rfl, h1, q1⟩
  have e1' : mayP wBool l = .ok b l1 := e1
  cases b with
  | true =>
    go_wp2_with fail
    go_ret
    exact ⟨q1, Or.inl ⟨true, l1, by simp only [truthP, pbind, e1', if_true, pret], h1, _, rfl, rfl⟩⟩
  | false =>
    go_wp2_with fail
    refine (taken1 ⟨wInt.toArray⟩ h1).mono ?_
    rintro e w2 ⟨q2, ⟨u, l2, e2, h2, v2, rfl, rfl⟩ | ⟨c2, l2, e2, rfl⟩⟩
    · have e2' : takeP wInt l1 = .ok u l2 := e2
      go_wp2_with fail
      go_ret
      exact ⟨grown_tr q1 q2, Or.inl ⟨false, l2, by simp only [truthP, pbind, e1', Bool.false_eq_true, if_false, e2', pret], h2, _, rfl, rfl⟩⟩
    · have e2' : takeP wInt l1 = .bad c2 l2 := e2
      go_wp2_with fail
      exact ⟨rfl, grown_tr q1 q2, Or.inr ⟨c2, l2, by simp only [truthP, pbind, e1', Bool.false_eq_true, if_false, e2'], rfl⟩⟩
/-- What is new but for two blocks. -/
def Fr (w0 w : World) (H X : Nat) : Nat → Prop := fun b => w0.heap.size ≤ b ∧ b < w.heap.size ∧ b ≠ H ∧ b ≠ X
def icells (x : It) (D V : Value) : Array Value := #[.int .i64 x.k, .string ⟨x.name.toArray⟩, .bool x.bool, D, .int .i64 x.size, .bool x.out, V, .int .i64 x.ask]
def zI : Array Value := #[.int .i64 0, .string ⟨#[]⟩, .bool false, .slice none 0 0, .int .i64 0, .bool false, .slice none 0 0, .int .i64 0]
/-- An item is made: block H is for the result, block X holds what is known of it. -/
structure Two (w0 w : World) (g n H X : Nat) (l : List Tok) (x : It) (D V : Value) : Prop where
  ps : Ps w g l n
  res : Blk w H 47 zI
  it : Blk w X 47 (icells x D V)
  dom : layR.row.P (Fr w0 w H X) w D x.dom
  vals : (layE 102).row.P (Fr w0 w H X) w V x.vals
  gr : w0.grownBy w (some g)
  hH : w0.heap.size ≤ H
  hX : w0.heap.size ≤ X
  ne : H ≠ X
  hg : g < w0.heap.size
section
variable {w0 w w' : World} {g n H X : Nat} {l l' : List Tok} {x : It} {D V : Value}
theorem Two.keep {α : Type} {Q : Dt α} {u : Value} {a : α} (h : Q.P (Fr w0 w H X) w u a) {k : Nat} (q : w.grownBy w' (some k)) (hk : k < w0.heap.size ∨ k = X) : Q.P (Fr w0 w' H X) w' u a :=
  Q.mono (fun b hb => ⟨hb.1, Nat.lt_of_lt_of_le hb.2.1 q.size, hb.2.2⟩) (Q.grown h q fun b hb e => by
    injection e with e
    rcases hk with hk | hk
    · have := hb.1
      omega
    · exact hb.2.2.2 (e.trans hk))
theorem Two.call (T : Two w0 w g n H X l x D V) (q : w.grownBy w' (some g)) (p : Ps w' g l' n) : Two w0 w' g n H X l' x D V :=
  ⟨p, T.res.turn q (by have := T.hH; have := T.hg; omega), T.it.turn q (by have := T.hX; have := T.hg; omega), Two.keep T.dom q (.inl T.hg), Two.keep T.vals q (.inl T.hg), grown_tr T.gr q, T.hH, T.hX, T.ne, T.hg⟩
theorem Two.alloc (T : Two w0 w g n H X l x D V) (o : Obj) : Two w0 (w.alloc o) g n H X l x D V := T.call (World.grownBy_alloc w o _) (T.ps.alloc o)
theorem Two.cell (T : Two w0 w g n H X l x D V) (i : Nat) : w.cell? ⟨X, i, none⟩ = (icells x D V)[i]? := T.it.cell i
theorem Two.set (T : Two w0 w g n H X l x D V) (i : Nat) (u : Value) {x' : It} {D' V' : Value} (h : (icells x D V).setIfInBounds i u = icells x' D' V') (hd : x'.dom = x.dom ∧ D' = D) (hv : (x'.vals = x.vals ∧ V' = V) ∨ (layE 102).row.P (Fr w0 w H X) w V' x'.vals) :
    Two w0 (w.setCell ⟨X, i, none⟩ u) g n H X l x' D' V' := by
  have q := grown_set w ⟨X, i, none⟩ u
  have hgX : g < X := by have := T.hX; have := T.hg; omega
  refine ⟨T.ps.grown q hgX, T.res.turn q T.ne, by have := T.it.set_ i u; rw [h] at this; exact this, ?_, ?_, grown_new T.gr q T.hX, T.hH, T.hX, T.ne, T.hg⟩
  · rw [hd.1, hd.2]
    exact Two.keep T.dom q (.inr rfl)
  · rcases hv with ⟨h1, h2⟩ | h1
    · rw [h1, h2]
      exact Two.keep T.vals q (.inr rfl)
    · exact Two.keep h1 q (.inr rfl)
theorem Two.name (T : Two w0 w g n H X l x D V) (s : List UInt8) : Two w0 (w.setCell ⟨X, 1, none⟩ (.string ⟨s.toArray⟩)) g n H X l { x with name := s } D V := T.set 1 _ rfl ⟨rfl, rfl⟩ (.inl ⟨rfl, rfl⟩)
theorem Two.kind (T : Two w0 w g n H X l x D V) (k : Int) : Two w0 (w.setCell ⟨X, 0, none⟩ (.int .i64 k)) g n H X l { x with k := k } D V := T.set 0 _ rfl ⟨rfl, rfl⟩ (.inl ⟨rfl, rfl⟩)
theorem Two.bool (T : Two w0 w g n H X l x D V) (b : Bool) : Two w0 (w.setCell ⟨X, 2, none⟩ (.bool b)) g n H X l { x with bool := b } D V := T.set 2 _ rfl ⟨rfl, rfl⟩ (.inl ⟨rfl, rfl⟩)
theorem Two.size (T : Two w0 w g n H X l x D V) (k : Int) : Two w0 (w.setCell ⟨X, 4, none⟩ (.int .i64 k)) g n H X l { x with size := k } D V := T.set 4 _ rfl ⟨rfl, rfl⟩ (.inl ⟨rfl, rfl⟩)
theorem Two.out (T : Two w0 w g n H X l x D V) : Two w0 (w.setCell ⟨X, 5, none⟩ (.bool true)) g n H X l { x with out := true } D V := T.set 5 _ rfl ⟨rfl, rfl⟩ (.inl ⟨rfl, rfl⟩)
theorem Two.ask (T : Two w0 w g n H X l x D V) (k : Int) : Two w0 (w.setCell ⟨X, 7, none⟩ (.int .i64 k)) g n H X l { x with ask := k } D V := T.set 7 _ rfl ⟨rfl, rfl⟩ (.inl ⟨rfl, rfl⟩)
theorem Two.put (T : Two w0 w g n H X l x D V) {V' : Value} {xs : List Ex} (h : (layE 102).row.P (Fr w0 w H X) w V' xs) : Two w0 (w.setCell ⟨X, 6, none⟩ V') g n H X l { x with vals := xs } D V' := T.set 6 _ rfl ⟨rfl, rfl⟩ (.inr h)
theorem Two.fr (T : Two w0 w g n H X l x D V) {B : Nat} (hB : w0.heap.size ≤ B) (h1 : H < B) (h2 : X < B) : ∀ b, since B w b → Fr w0 w H X b := fun b hb => ⟨Nat.le_trans hB hb.1, hb.2, by have := hb.1; omega, by have := hb.1; omega⟩
theorem Two.lt (T : Two w0 w g n H X l x D V) : H < w.heap.size ∧ X < w.heap.size ∧ w0.heap.size ≤ w.heap.size := ⟨T.res.lt, T.it.lt, T.gr.size⟩
/-- An item, as a value; what it holds is new since a world of so many blocks. -/
def VIt (B : Nat) (w : World) (v : Value) (x : It) : Prop := ∃ D V, v = .agg (icells x D V) ∧ layR.row.P (since B w) w D x.dom ∧ (layE 102).row.P (since B w) w V x.vals
/-- The item is told. -/
theorem Two.done {w9 : World} {r : PR It} {e : Ending} (T : Two w0 w g n H X l x D V) (q : w.grownBy w9 (some H)) (hr : r = .ok x l) (he : e = .returned (.agg (icells x D V))) : PPost g n w0 (VIt w0.heap.size) r e w9 := by
  have hg := T.hg
  have hH := T.hH
  refine ⟨grown_new T.gr q T.hH, Or.inl ⟨x, l, hr, T.ps.grown q (by omega), _, he, D, V, rfl, ?_, ?_⟩⟩
  · exact layR.row.mono (fun b hb => ⟨hb.1, Nat.lt_of_lt_of_le hb.2.1 q.size⟩) (layR.row.grown T.dom q fun b hb e => by injection e with e; exact hb.2.2.1 e)
  · exact (layE 102).row.mono (fun b hb => ⟨hb.1, Nat.lt_of_lt_of_le hb.2.1 q.size⟩) ((layE 102).row.grown T.vals q fun b hb e => by injection e with e; exact hb.2.2.1 e)
end
end Go.Proofs.YtpfhgkielakmoaaGreatDoor

/-
  Joined texts: Pf, Pg.
-/
import Derived.Test.YtpfhgkielakmoaaGreatDoorDat
import Derived.Test.YtpfhgkielakmoaaGreatDoorPa
import Derived.Test.YtpfhgkielakmoaaGreatDoorPe
/-
  How items and expressions lie in memory.
-/
set_option linter.unusedSimpArgs false
set_option linter.unusedVariables false
namespace Go.Proofs.YtpfhgkielakmoaaGreatDoor
open Go.RowKit

/-- A row of which the length alone is told. -/
def Dt.len {α : Type} (f : α → Nat) : Dt α := ⟨fun _ _ v a => ∃ A c, v = .slice A (f a) c, fun _ h => h, fun _ _ h => h⟩
def layE0 (ty : TypeId) : Lay Ex0 := ⟨ty, 4, fun
  | 0 => .eq fun x => .int .i64 x.k
  | 1 => .eq fun x => .int .i64 x.n
  | 2 => .eq fun x => .string ⟨x.s.toArray⟩
  | _ => .len (·.m)⟩
def layE (ty : TypeId) : Lay Ex := ⟨ty, 4, fun
  | 0 => .eq fun x => .int .i64 x.k
  | 1 => .eq fun x => .int .i64 x.n
  | 2 => .eq fun x => .string ⟨x.s.toArray⟩
  | _ => (layE0 ty).row.via (·.l)⟩
def layR : Lay (Int × Int) := ⟨44, 2, fun
  | 0 => .eq fun x => .int .i64 x.1
  | _ => .eq fun x => .int .i64 x.2⟩
def layI (ty te : TypeId) : Lay It := ⟨ty, 8, fun
  | 0 => .eq fun x => .int .i64 x.k
  | 1 => .eq fun x => .string ⟨x.name.toArray⟩
  | 2 => .eq fun x => .bool x.bool
  | 3 => layR.row.via (·.dom)
  | 4 => .eq fun x => .int .i64 x.size
  | 5 => .eq fun x => .bool x.out
  | 6 => (layE te).row.via (·.vals)
  | _ => .eq fun x => .int .i64 x.ask⟩
/-- Rows of expressions, as elements of a list. -/
theorem row_low {ty : TypeId} {F : Nat → Prop} {w : World} {v : Value} {l : List Ex} (h : (layE ty).row.P F w v l) : (layE0 ty).row.P F w v (l.map Ex.low) := by
  obtain ⟨A, c, h1, h2, h3, h4⟩ := h
  refine ⟨A, c, by rw [List.length_map]; exact h1, by rw [List.length_map]; exact h2, h3, fun hn => ?_⟩
  obtain ⟨b, o, h5, h6, h7, h8⟩ := h4 (by rintro rfl; exact hn rfl)
  refine ⟨b, o, h5, h6, h7, fun j hj k hk => ?_⟩
  rw [List.length_map] at hj
  obtain ⟨x, hx, hp⟩ := h8 j hj k hk
  refine ⟨x, hx, ?_⟩
  rw [List.getElem_map]
  have hk4 : k < 4 := hk
  match k, hk4 with
  | 0, _ => exact hp
  | 1, _ => exact hp
  | 2, _ => exact hp
  | 3, _ =>
    obtain ⟨A', c', e, _⟩ := hp
    exact ⟨A', c', e⟩
/-- A struct value, read by its cells. -/
def Lay.agg {α : Type} (L : Lay α) (F : Nat → Prop) (w : World) (v : Value) (x : α) : Prop := ∃ vs : Array Value, v = .agg vs ∧ vs.size = L.sz ∧ ∀ k, k < L.sz → ∃ u, vs[k]? = some u ∧ (L.C k).P F w u x
end Go.Proofs.YtpfhgkielakmoaaGreatDoor
/-
  Contracts of plain, exprs, expr.
-/
set_option linter.unusedSimpArgs false
set_option linter.unusedVariables false
namespace Go.Proofs.YtpfhgkielakmoaaGreatDoor
open Go.RowKit

theorem grown_new {a b c : World} {row : Option Nat} {k : Nat} (h : a.grownBy b row) (q : b.grownBy c (some k)) (hk : a.heap.size ≤ k) : a.grownBy c row :=
  ⟨q.os.trans h.os, q.tape.trans h.tape, q.output.trans h.output, Nat.le_trans h.size q.size, fun j hj hne => (q.block j (Nat.lt_of_lt_of_le hj h.size) (fun e => by injection e with e; omega)).trans (h.block j hj hne)⟩
theorem info_ex : (Tryz.prog.info? 102).map (·.size) = some 4 := by kernel_rfl
theorem info_it : (Tryz.prog.info? 47).map (·.size) = some 8 := by kernel_rfl
/-- A plain expression, as a value. -/
def VP (w : World) (v : Value) (x : Ex) : Prop := x.l = [] ∧ v = .agg #[.int .i64 x.k, .int .i64 x.n, .string ⟨x.s.toArray⟩, .slice none 0 0]
def zE : Array Value := #[.int .i64 0, .int .i64 0, .string ⟨#[]⟩, .slice none 0 0]
set_option maxRecDepth 100000 in
set_option maxHeartbeats 2000000 in
theorem plain_any {g n : Nat} {l : List Tok} {w : World} (h : Ps w g l n) :
    Calls Tryz.prog 117 #[.pointer (some ⟨g, 0, none⟩)] w (PPost g n w VP (plainP l)) := by
  have hf1 : ∀ (a b c d : Value) (w : World), (Instr.field 93 (.agg #[a, b, c, d]) 1).run Tryz.prog w = .ok b w := fun _ _ _ _ _ => by rfl
  have hf2 : ∀ (a b c d : Value) (w : World), (Instr.field 93 (.agg #[a, b, c, d]) 2).run Tryz.prog w = .ok c w := fun _ _ _ _ _ => by rfl
  have hg := h.lt
  have h0 := h.alloc (.cells zE 102)
  have b0 : Blk (w.alloc (.cells zE 102)) w.heap.size 102 zE := Blk.new ..
  have q0 := World.grownBy_alloc w (.cells zE 102) (some g)
  go_enter Tryz.func117, Tryz.ntmps117
  go_wp2_with fail
  refine (kind_any h0).mono ?_
  rintro e w1 ⟨rfl, q⟩
  obtain ⟨h1, q1⟩ := h0.under q
  have b1 := b0.turn q1 (by omega)
  replace q1 := grown_tr q0 q1
  clear h0 b0 q0 q
  cases hk : (kindP l == 2) with
  | true =>
    have hk2 : kindP l = 2 := by simpa using hk
    obtain ⟨t, r, rfl⟩ := kind_head hk2 (by decide)
    go_wp2_with fail
    refine (next_any h1).mono ?_
    rintro e w2 ⟨rfl, h2, q2⟩
    have b2 := b1.turn q2 (by omega)
    go_wp2_with ((with_reducible show wpList _ _ _ (Oper.mk none (Op.store _ _ _) _ _ _ _ :: _) _ _); refine wp_put (o := ⟨none, .store _ _ _, _, _, _, _⟩) _ _ b2 rfl rfl rfl rfl info_ex rfl rfl ?_; intro w9 b9 q9)
    obtain ⟨r1, r2, r3, r4⟩ := b9.four
    refine bodyPost_ret (v := .agg #[.int .i64 1, .int .i64 t.v, .string ⟨#[]⟩, .slice none 0 0]) (by simp [results, Tryz.results117, go_sem, r1, r2, r3, r4]) rfl ?_
    exact ⟨grown_new (grown_tr q1 q2) q9 (Nat.le_refl _), Or.inl ⟨⟨1, t.v, [], []⟩, r, by unfold plainP; rw [if_pos hk2]; rfl, h2.grown q9 hg, _, rfl, rfl, rfl⟩⟩
  | false =>
    have hk2 : ¬ kindP l = 2 := by simpa using hk
    cases hn : (kindP l == 1) with
    | true =>
      have hn2 : kindP l = 1 := by simpa using hn
      obtain ⟨t, r, rfl⟩ := kind_head hn2 (by decide)
      go_wp2_with fail
      refine (next_any h1).mono ?_
      rintro e w2 ⟨rfl, h2, q2⟩
      have b2 := b1.turn q2 (by omega)
      go_wp2_with ((with_reducible show wpList _ _ _ (Oper.mk none (Op.store _ _ _) _ _ _ _ :: _) _ _); refine wp_put (o := ⟨none, .store _ _ _, _, _, _, _⟩) _ _ b2 rfl rfl rfl rfl info_ex rfl rfl ?_; intro w9 b9 q9)
      obtain ⟨r1, r2, r3, r4⟩ := b9.four
      refine bodyPost_ret (v := .agg #[.int .i64 3, .int .i64 0, .string ⟨t.t.toArray⟩, .slice none 0 0]) (by simp [results, Tryz.results117, go_sem, r1, r2, r3, r4]) rfl ?_
      exact ⟨grown_new (grown_tr q1 q2) q9 (Nat.le_refl _), Or.inl ⟨⟨3, 0, t.t, []⟩, r, by unfold plainP; rw [if_neg hk2, if_pos hn2]; rfl, h2.grown q9 hg, _, rfl, rfl, rfl⟩⟩
    | false =>
      have hn2 : ¬ kindP l = 1 := by simpa using hn
      go_wp2_with fail
      refine (may_any ⟨wTrue.toArray⟩ h1).mono ?_
      rintro e w2 ⟨b, l2, e2, rfl, h2, q2⟩
      have b2 := b1.turn q2 (by omega)
      have hp : plainP l = match mayP wTrue l with
          | .ok true r => .ok ⟨2, 1, [], []⟩ r
          | _ => match mayP wFalse l with
            | .ok true r => .ok ⟨2, 0, [], []⟩ r
            | _ => wrongP l := by
        unfold plainP mayP
        rw [if_neg hk2, if_neg hn2]
        by_cases h1 : isP wTrue l = true
        · rw [if_pos h1, if_pos h1]
        · rw [if_neg h1, if_neg h1]
          by_cases h2 : isP wFalse l = true
          · rw [if_pos h2, if_pos h2]
          · rw [if_neg h2, if_neg h2]
      have e2' : mayP wTrue l = .ok b l2 := e2
      rw [e2'] at hp
      have HP := Lib.hid hp
      clear hp
      cases b with
      | true =>
        go_wp2_with ((with_reducible show wpList _ _ _ (Oper.mk none (Op.store _ _ _) _ _ _ _ :: _) _ _); refine wp_put (o := ⟨none, .store _ _ _, _, _, _, _⟩) _ _ b2 rfl rfl rfl rfl info_ex rfl rfl ?_; intro w9 b9 q9)
        obtain ⟨r1, r2, r3, r4⟩ := b9.four
        refine bodyPost_ret (v := .agg #[.int .i64 2, .int .i64 1, .string ⟨#[]⟩, .slice none 0 0]) (by simp [results, Tryz.results117, go_sem, r1, r2, r3, r4]) rfl ?_
        exact ⟨grown_new (grown_tr q1 q2) q9 (Nat.le_refl _), Or.inl ⟨⟨2, 1, [], []⟩, l2, HP.out, h2.grown q9 hg, _, rfl, rfl, rfl⟩⟩
      | false =>
        have hl2 : l2 = l := by
          unfold mayP at e2'
          split at e2'
          · injection e2' with h _
            cases h
          · injection e2' with _ h
            exact h.symm
        subst hl2
        go_wp2_with fail
        refine (may_any ⟨wFalse.toArray⟩ h2).mono ?_
        rintro e w3 ⟨b, l3, e3, rfl, h3, q3⟩
        have b3 := b2.turn q3 (by omega)
        have e3' : mayP wFalse l2 = .ok b l3 := e3
        have hp := HP.out
        rw [e3'] at hp
        replace HP := Lib.hid hp
        clear hp
        cases b with
        | true =>
          go_wp2_with ((with_reducible show wpList _ _ _ (Oper.mk none (Op.store _ _ _) _ _ _ _ :: _) _ _); refine wp_put (o := ⟨none, .store _ _ _, _, _, _, _⟩) _ _ b3 rfl rfl rfl rfl info_ex rfl rfl ?_; intro w9 b9 q9)
          obtain ⟨r1, r2, r3, r4⟩ := b9.four
          refine bodyPost_ret (v := .agg #[.int .i64 2, .int .i64 0, .string ⟨#[]⟩, .slice none 0 0]) (by simp [results, Tryz.results117, go_sem, r1, r2, r3, r4]) rfl ?_
          exact ⟨grown_new (grown_tr (grown_tr q1 q2) q3) q9 (Nat.le_refl _), Or.inl ⟨⟨2, 0, [], []⟩, l3, HP.out, h3.grown q9 hg, _, rfl, rfl, rfl⟩⟩
        | false =>
          have hl3 : l3 = l2 := by
            unfold mayP at e3'
            split at e3'
            · injection e3' with h _
              cases h
            · injection e3' with _ h
              exact h.symm
          subst hl3
          go_wp2_with fail
          refine (wrong_any h3).mono ?_
          rintro e w4 ⟨rfl, q4⟩
          go_wp2_with fail
          exact ⟨rfl, grown_tr (grown_tr (grown_tr q1 q2) q3) q4, Or.inr ⟨_, _, HP.out, rfl⟩⟩
theorem Ps.belowB {w w' : World} {g n B : Nat} {l : List Tok} (h : Ps w g l n) (hb : Below B w w') (hB : g < B) : Ps w' g l n := by
  have hs := hb.size
  obtain ⟨A, c, h1, h2, h3⟩ := h
  refine ⟨A, c, (hb.block g hB).trans h1, ⟨h2.room, h2.cap, fun hn => ?_⟩, h3⟩
  obtain ⟨b, o, hA, hlt, hc⟩ := h2.at_ hn
  have hx : ∀ k, w'.cell? ⟨b, k, none⟩ = w.cell? ⟨b, k, none⟩ := fun k => World.cell?_of_block (hb.block b (by have := h3 b o none hA; omega))
  refine ⟨b, o, hA, Nat.lt_of_lt_of_le hlt hs, fun j hj => ?_⟩
  simp only [hx]
  exact hc j hj
theorem grown_belowB {a b c : World} {row : Option Nat} {B : Nat} (h : a.grownBy b row) (q : Below B b c) (hB : a.heap.size ≤ B) : a.grownBy c row :=
  ⟨q.os.trans h.os, q.tape.trans h.tape, q.output.trans h.output, Nat.le_trans h.size q.size, fun j hj hne => (q.block j (Nat.lt_of_lt_of_le hj hB)).trans (h.block j hj hne)⟩
/-- An expression, as a value; what it holds is new since a world of so many blocks. -/
def VX (B : Nat) (w : World) (v : Value) (x : Ex) : Prop := (layE 102).agg (since B w) w v x
theorem VP.vx {w : World} {v : Value} {x : Ex} {B : Nat} (h : VP w v x) : VX B w v x := by
  obtain ⟨h1, rfl⟩ := h
  refine ⟨_, rfl, rfl, fun k hk => ?_⟩
  have hk4 : k < 4 := hk
  match k, hk4 with
  | 0, _ => exact ⟨_, rfl, rfl⟩
  | 1, _ => exact ⟨_, rfl, rfl⟩
  | 2, _ => exact ⟨_, rfl, rfl⟩
  | 3, _ =>
    refine ⟨_, rfl, ?_⟩
    show (layE0 _).row.P _ _ _ x.l
    rw [h1]
    exact Lay.row_nil (Nat.zero_le _)
theorem VX.parts {B : Nat} {w : World} {v : Value} {x : Ex} (h : VX B w v x) : ∃ S, v = .agg #[.int .i64 x.k, .int .i64 x.n, .string ⟨x.s.toArray⟩, S] ∧ S.oneCell' = true ∧ (layE0 102).row.P (since B w) w S x.l := by
  obtain ⟨vs, rfl, hs, hc⟩ := h
  obtain ⟨u0, h0, p0⟩ := hc 0 (by decide)
  obtain ⟨u1, h1, p1⟩ := hc 1 (by decide)
  obtain ⟨u2, h2, p2⟩ := hc 2 (by decide)
  obtain ⟨u3, h3, p3⟩ := hc 3 (by decide)
  have e0 : u0 = .int .i64 x.k := p0
  have e1 : u1 = .int .i64 x.n := p1
  have e2 : u2 = .string ⟨x.s.toArray⟩ := p2
  have p3' : (layE0 102).row.P (since B w) w u3 x.l := p3
  obtain ⟨A, c, e3⟩ := Lay.row_len p3'
  subst e0 e1 e2
  have hs4 : vs.size = 4 := hs
  refine ⟨u3, ?_, by rw [e3]; rfl, p3'⟩
  congr 1
  apply Array.ext_getElem?
  intro i
  match i with
  | 0 => exact h0
  | 1 => exact h1
  | 2 => exact h2
  | 3 => exact h3
  | i + 4 => rw [Array.getElem?_eq_none (by omega), Array.getElem?_eq_none (by show 4 ≤ i + 4; omega)]
def Stop (p : Prop) : Prop := p
theorem stop_of {p : Prop} (h : Stop p) : p := h
theorem info_exs : (Tryz.prog.info? 102).map (fun i => (i.zero, i.size, i.bytes)) = some (some (.agg #[.int .i64 0, .int .i64 0, .string ⟨#[]⟩, .slice none 0 0]), 4, 56) := by kernel_rfl
set_option maxRecDepth 100000 in
set_option maxHeartbeats 2000000 in
theorem exprs_any {g n f : Nat} {one : Pm Ex} (hcf : ∀ (args : Array Value) (w : World), (callFunc f args).run Tryz.prog w = .ok (.enter f args) w) (hone : ∀ l w, Ps w g l n → Calls Tryz.prog f #[.pointer (some ⟨g, 0, none⟩)] w (PPost g n w (VX w.heap.size) (one l))) {l : List Tok} {w : World} (s : ByteArray) (h : Ps w g l n) :
    Calls Tryz.prog 81 #[.pointer (some ⟨g, 0, none⟩), .string s, .func (.func f) #[.pointer (some ⟨g, 0, none⟩)] #[]] w (PPost g n w (fun w' v xs => (layE 102).row.P (since w.heap.size w') w' v xs) (exprsP s.data.toList one l)) := by
  have hg := h.lt
  have hp : exprsP s.data.toList one l = match mayP s.data.toList l with
      | .ok true r => .ok [] r
      | .ok false r => exprsGo s.data.toList one 64 [] r
      | .bad e r => .bad e r := by
    show pbind (mayP s.data.toList) _ l = _
    unfold pbind
    cases mayP s.data.toList l with
    | ok b r => cases b <;> rfl
    | bad e r => rfl
  go_enter Tryz.func81, Tryz.ntmps81
  go_wp2_with fail
  refine (may_any s h).mono ?_
  rintro e w1 ⟨b, l1, e1, rfl, h1, q1⟩
  rw [e1] at hp
  cases b with
  | true =>
    go_wp2_with fail
    go_ret
    exact ⟨q1, Or.inl ⟨[], l1, hp, h1, _, rfl, Lay.row_nil (Nat.zero_le _)⟩⟩
  | false =>
    have hp' : exprsP s.data.toList one l = exprsGo s.data.toList one 64 [] l1 := hp
    have HP := Lib.hid hp'
    clear hp hp'
    go_wp2_with fail
    go_loopg [7] (65) (fun k v wr => ∃ (xs : List Ex) (l' : List Tok), k = 65 - xs.length ∧ xs.length ≤ 64 ∧ Hid (exprsP s.data.toList one l = exprsGo s.data.toList one (64 - xs.length) xs l') ∧ (layE 102).own w.heap.size wr v xs ∧ Ps wr g l' n ∧ w.grownBy wr (some g))
    case atStart => exact ⟨[], l1, rfl, Nat.zero_le _, HP.out, Lay.own_nil _ _ _, h1, q1⟩
    case round =>
      obtain ⟨xs, l', hk, hx, hT, ho, hps, hq⟩ := hrel
      have hws : w.heap.size ≤ wr.heap.size := hq.size
      replace ho : (layE 102).own w.heap.size wr _ xs := ho
      obtain ⟨A, c, hv⟩ := Lay.own_len ho
      by_cases hx64 : xs.length = 64
      · have d1 : ((xs.length : Int) == 64) = true := by rw [hx64]; rfl
        have hT2 := hT.out
        rw [hx64] at hT2
        have HT2 := Lib.hid hT2
        clear hT hT2
        subst hv
        go_wp2_with fail
        refine (throw_any 3 hps).mono ?_
        rintro e w3 ⟨rfl, q3⟩
        go_wp2_with fail
        exact ⟨rfl, grown_tr hq q3, Or.inr ⟨3, l', HT2.out, rfl⟩⟩
      · have d1 : ((xs.length : Int) == 64) = false := beq_eq_false_iff_ne.2 (by omega)
        obtain ⟨j, hj⟩ : ∃ j, 64 - xs.length = j + 1 := ⟨63 - xs.length, by omega⟩
        have hT2 := hT.out
        rw [hj] at hT2
        have HT2 := Lib.hid hT2
        have HJ := Lib.hid hj
        clear hT hT2 hj
        have hlt := Lay.own_lt ho
        subst hv
        go_wp2_with fail
        refine (hone l' wr hps).mono ?_
        rintro e w3 ⟨q3, ⟨x, l3, e3, h3, v3, rfl, p3⟩ | ⟨c3, l3, e3, rfl⟩⟩
        · have ho3 : (layE 102).own w.heap.size w3 (.slice A xs.length c) xs := Lay.own_grown ho q3 (fun k e => by injection e with e; omega)
          obtain ⟨S, rfl, hS1, hS⟩ := p3.parts
          have hsz3 := q3.size
          have hown : ∀ b, since wr.heap.size w3 b → inF w.heap.size w3 (.slice A xs.length c) b := fun b hb => ⟨Nat.le_trans hws hb.1, hb.2, fun e => by
            have := hlt b e
            have := hb.1
            omega⟩
          have hnew : ∀ k, k < (layE 102).sz → ∃ u, [Value.int .i64 x.k, .int .i64 x.n, .string ⟨x.s.toArray⟩, S][k]? = some u ∧ ((layE 102).C k).P (inF w.heap.size w3 (.slice A xs.length c)) w3 u x := fun k hk => by
            have hk4 : k < 4 := hk
            match k, hk4 with
            | 0, _ => exact ⟨_, rfl, rfl⟩
            | 1, _ => exact ⟨_, rfl, rfl⟩
            | 2, _ => exact ⟨_, rfl, rfl⟩
            | 3, _ => exact ⟨_, rfl, ((layE0 102).row).mono hown hS⟩
          have hwb : w.heap.size ≤ w3.heap.size := by omega
          have HN := Lib.hid hnew
          have hn1 : (#[Value.int .i64 x.k, .int .i64 x.n, .string ⟨x.s.toArray⟩, S] : Array Value).toList.all (·.oneCell') = true := by
            show (true && (true && (true && (S.oneCell' && true)))) = true
            rw [hS1]
            rfl
          have H1 := Lib.hid hn1
          clear hnew hown hS hS1 hlt hn1
          go_wp2_with (at_builtin; refine Lay.wp_app (layE 102) _ _ w3 w.heap.size _ xs x #[Value.int .i64 x.k, .int .i64 x.n, .string ⟨x.s.toArray⟩, S] rfl Tryz.underlying45 info_exs rfl (by decide) (by decide) ho3 hwb (by omega) rfl H1.out HN.out rfl rfl rfl rfl ?_; intro v4 w4 ho4 hg4 hb4 _)
          have h4 := h3.belowB hb4 hg
          have q4 := grown_belowB (grown_tr hq q3) hb4 (Nat.le_refl _)
          refine (may_any s h4).mono ?_
          rintro e w5 ⟨b, l5, e5, rfl, h5, q5⟩
          have ho5 := Lay.own_grown ho4 q5 (fun k e => by injection e with e; omega)
          obtain ⟨A5, c5, hv5⟩ := Lay.own_len ho5
          rw [List.length_append, List.length_singleton] at hv5
          subst hv5
          cases b with
          | true =>
            go_wp2_with fail
            go_ret
            refine ⟨grown_tr q4 q5, Or.inl ⟨xs ++ [x], l5, ?_, h5, _, rfl, Lay.own_row ho5⟩⟩
            rw [HT2.out]
            show pbind one _ l' = _
            simp only [pbind, e3, e5]
            rfl
          | false =>
            go_wp2_with fail
            refine (taken1 ⟨#[44]⟩ h5).mono ?_
            rintro e w6 ⟨q6, ⟨u, l6, e6, h6, v6, rfl, rfl⟩ | ⟨c6, l6, e6, rfl⟩⟩
            · have ho6 := Lay.own_grown ho5 q6 (fun k e => by injection e with e; omega)
              have e6' : takeP [44] l5 = .ok u l6 := e6
              go_wp2_with fail
              go_roundg (65 - (xs.length + 1))
              case measure => omega
              case rel =>
                refine ⟨xs ++ [x], l6, by simp, by simp; omega, ?_, ho6, h6, grown_tr (grown_tr q4 q5) q6⟩
                show _ = _
                rw [HT2.out, show 64 - (xs ++ [x]).length = j by rw [List.length_append, List.length_singleton]; have := HJ.out; omega]
                show pbind one _ l' = _
                simp only [pbind, e3, e5, Bool.false_eq_true, if_false, e6']
            · have e6' : takeP [44] l5 = .bad c6 l6 := e6
              go_wp2_with fail
              refine ⟨rfl, grown_tr (grown_tr q4 q5) q6, Or.inr ⟨c6, l6, ?_, rfl⟩⟩
              rw [HT2.out]
              show pbind one _ l' = _
              simp only [pbind, e3, e5, Bool.false_eq_true, if_false, e6']
        · go_wp2_with fail
          refine ⟨rfl, grown_tr hq q3, Or.inr ⟨c3, l3, ?_, rfl⟩⟩
          rw [HT2.out]
          show pbind one _ l' = _
          unfold pbind
          rw [e3]
theorem PPost.weak {α : Type} {g n : Nat} {w w' : World} {V V2 : World → Value → α → Prop} {r : PR α} {e : Ending} (h : PPost g n w V r e w') (hv : ∀ v x, V w' v x → V2 w' v x) : PPost g n w V2 r e w' := by
  obtain ⟨q, h⟩ := h
  refine ⟨q, ?_⟩
  rcases h with ⟨x, l, h1, h2, v, h3, h4⟩ | h
  · exact Or.inl ⟨x, l, h1, h2, v, h3, hv _ _ h4⟩
  · exact Or.inr h
theorem plainX {g n : Nat} {l : List Tok} {w : World} (h : Ps w g l n) : Calls Tryz.prog 117 #[.pointer (some ⟨g, 0, none⟩)] w (PPost g n w (VX w.heap.size) (plainP l)) :=
  (plain_any h).mono fun e w' hp => hp.weak fun v x hv => hv.vx
set_option maxRecDepth 100000 in
theorem plains_any {g n : Nat} {l : List Tok} {w : World} (s : ByteArray) (h : Ps w g l n) :
    Calls Tryz.prog 81 #[.pointer (some ⟨g, 0, none⟩), .string s, .func (.func 117) #[.pointer (some ⟨g, 0, none⟩)] #[]] w (PPost g n w (fun w' v xs => (layE 102).row.P (since w.heap.size w') w' v xs) (exprsP s.data.toList plainP l)) :=
  exprs_any (fun _ _ => rfl) (fun _ _ h => plainX h) s h
set_option maxRecDepth 100000 in
set_option maxHeartbeats 2000000 in
theorem expr_any {g n : Nat} {l : List Tok} {w : World} (h : Ps w g l n) :
    Calls Tryz.prog 82 #[.pointer (some ⟨g, 0, none⟩)] w (PPost g n w (VX w.heap.size) (exprP l)) := by
  have hmf : ∀ (fn : Fn) (first cap : Array Value) (w : World), (Instr.makeFunc fn first cap).run Tryz.prog w = .ok (.func fn first cap) w := fun _ _ _ _ => rfl
  have hg := h.lt
  have h0 := h.alloc (.cells zE 102)
  have b0 : Blk (w.alloc (.cells zE 102)) w.heap.size 102 zE := Blk.new ..
  have q0 := World.grownBy_alloc w (.cells zE 102) (some g)
  have z0 : w.heap.size < (w.alloc (.cells zE 102)).heap.size := by simp
  go_enter Tryz.func82, Tryz.ntmps82
  go_wp2_with fail
  refine (may_any ⟨#[91]⟩ h0).mono ?_
  rintro e w1 ⟨b, l1, e1, rfl, h1, q1⟩
  have e1' : mayP [91] l = .ok b l1 := e1
  have b1 := b0.turn q1 (by omega)
  have z1 := q1.size
  replace q1 := grown_tr q0 q1
  clear h0 b0 q0
  cases b with
  | true =>
    go_wp2_with fail
    refine (plains_any ⟨#[93]⟩ h1).mono ?_
    rintro e w2 ⟨q2, ⟨xs, l2, e2, h2, S, rfl, hS⟩ | ⟨c2, l2, e2, rfl⟩⟩
    · have e2' : exprsP [93] plainP l1 = .ok xs l2 := e2
      have b2 := b1.turn q2 (by omega)
      obtain ⟨A, c, rfl⟩ := Lay.row_len hS
      go_wp2_with ((with_reducible show wpList _ _ _ (Oper.mk none (Op.store _ _ _) _ _ _ _ :: _) _ _); refine wp_put (o := ⟨none, .store _ _ _, _, _, _, _⟩) _ _ b2 rfl rfl rfl rfl info_ex rfl rfl ?_; intro w9 b9 q9)
      obtain ⟨r1, r2, r3, r4⟩ := b9.four
      refine bodyPost_ret (v := .agg #[.int .i64 4, .int .i64 0, .string ⟨#[]⟩, .slice A xs.length c]) (by simp [results, Tryz.results82, go_sem, r1, r2, r3, r4]) rfl ?_
      refine ⟨grown_new (grown_tr q1 q2) q9 (Nat.le_refl _), Or.inl ⟨⟨4, 0, [], xs.map Ex.low⟩, l2, ?_, h2.grown q9 hg, _, rfl, ?_⟩⟩
      · show pbind (mayP [91]) _ l = _
        simp only [pbind, e1', if_true, e2']
        rfl
      · refine ⟨_, rfl, rfl, fun k hk => ?_⟩
        have hk4 : k < 4 := hk
        match k, hk4 with
        | 0, _ => exact ⟨_, rfl, rfl⟩
        | 1, _ => exact ⟨_, rfl, rfl⟩
        | 2, _ => exact ⟨_, rfl, rfl⟩
        | 3, _ =>
          refine ⟨_, rfl, ?_⟩
          have hS9 := ((layE 102).row).grown hS q9 (fun b hb e => by
            injection e with e
            have := hb.1
            omega)
          exact row_low (((layE 102).row).mono (fun b hb => ⟨by have := hb.1; omega, Nat.lt_of_lt_of_le hb.2 q9.size⟩) hS9)
    · have e2' : exprsP [93] plainP l1 = .bad c2 l2 := e2
      go_wp2_with fail
      refine ⟨rfl, grown_tr q1 q2, Or.inr ⟨c2, l2, ?_, rfl⟩⟩
      show pbind (mayP [91]) _ l = _
      simp only [pbind, e1', if_true, e2']
  | false =>
    go_wp2_with fail
    refine (plain_any h1).mono ?_
    rintro e w2 ⟨q2, ⟨x, l2, e2, h2, v, rfl, hx, rfl⟩ | ⟨c2, l2, e2, rfl⟩⟩
    · have b2 := b1.turn q2 (by omega)
      go_wp2_with ((with_reducible show wpList _ _ _ (Oper.mk none (Op.store _ _ _) _ _ _ _ :: _) _ _); refine wp_put (o := ⟨none, .store _ _ _, _, _, _, _⟩) _ _ b2 rfl rfl rfl rfl info_ex rfl rfl ?_; intro w9 b9 q9)
      obtain ⟨r1, r2, r3, r4⟩ := b9.four
      refine bodyPost_ret (v := .agg #[.int .i64 x.k, .int .i64 x.n, .string ⟨x.s.toArray⟩, .slice none 0 0]) (by simp [results, Tryz.results82, go_sem, r1, r2, r3, r4]) rfl ?_
      refine ⟨grown_new (grown_tr q1 q2) q9 (Nat.le_refl _), Or.inl ⟨x, l2, ?_, h2.grown q9 hg, _, rfl, VP.vx ⟨hx, rfl⟩⟩⟩
      show pbind (mayP [91]) _ l = _
      simp only [pbind, e1', Bool.false_eq_true, if_false, e2]
    · go_wp2_with fail
      refine ⟨rfl, grown_tr q1 q2, Or.inr ⟨c2, l2, ?_, rfl⟩⟩
      show pbind (mayP [91]) _ l = _
      simp only [pbind, e1', Bool.false_eq_true, if_false, e2]
end Go.Proofs.YtpfhgkielakmoaaGreatDoor

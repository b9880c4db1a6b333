/-
  The law's turns of expressions and items.
-/
import Derived.Test.YtpfhgkielakmoaaGreatDoorDab
import Derived.Test.YtpfhgkielakmoaaGreatDoorTl
set_option linter.unusedSimpArgs false
set_option linter.unusedVariables false
namespace Go.Proofs.YtpfhgkielakmoaaGreatDoor
open Go.RowKit Num

def Ex0.flat (y : Ex0) : Ex0 := ⟨y.k, y.n, y.s, if y.m = 0 then 0 else 1⟩
def Ex.flat (x : Ex) : Ex := ⟨x.k, x.n, x.s, x.l.map Ex0.flat⟩
def It.flat (x : It) : It := ⟨x.k, x.name, x.bool, x.dom, x.size, x.out, x.vals.map Ex.flat, x.ask⟩
/-- The cells of a row of expressions within a list. -/
theorem row_e0 {ty : TypeId} {F : Nat → Prop} {w : World} {A : Option Addr} {n c : Nat} {l : List Ex0} (h : (layE0 ty).row.P F w (.slice A n c) l) (hn : l ≠ []) :
    ∃ b o, A = some ⟨b, o, none⟩ ∧ b < w.heap.size ∧ ∀ j (hj : j < l.length), w.cell? ⟨b, o + j * 4, none⟩ = some (.int .i64 l[j].k) ∧ w.cell? ⟨b, o + j * 4 + 1, none⟩ = some (.int .i64 l[j].n) ∧ w.cell? ⟨b, o + j * 4 + 2, none⟩ = some (.string ⟨l[j].s.toArray⟩) ∧ ∃ A3 c3, w.cell? ⟨b, o + j * 4 + 3, none⟩ = some (.slice A3 l[j].m c3) := by
  obtain ⟨A', c', h1, h2, h3, h4⟩ := h
  obtain ⟨b, o, h5, h6, h7, h8⟩ := h4 hn
  injection h1 with e1 _ _
  subst e1
  refine ⟨b, o, h5, h7, fun j hj => ?_⟩
  obtain ⟨u0, k0, p0⟩ := h8 j hj 0 (by show 0 < 4; omega)
  obtain ⟨u1, k1, p1⟩ := h8 j hj 1 (by show 1 < 4; omega)
  obtain ⟨u2, k2, p2⟩ := h8 j hj 2 (by show 2 < 4; omega)
  obtain ⟨u3, k3, p3⟩ := h8 j hj 3 (by show 3 < 4; omega)
  have p0' : u0 = .int .i64 l[j].k := p0
  have p1' : u1 = .int .i64 l[j].n := p1
  have p2' : u2 = .string ⟨l[j].s.toArray⟩ := p2
  obtain ⟨A3, c3, p3'⟩ := p3
  subst p0' p1' p2' p3'
  exact ⟨k0, k1, k2, A3, c3, k3⟩
theorem row_ex {ty : TypeId} {F : Nat → Prop} {w : World} {A : Option Addr} {n c : Nat} {l : List Ex} (h : (layE ty).row.P F w (.slice A n c) l) (hn : l ≠ []) :
    ∃ b o, A = some ⟨b, o, none⟩ ∧ b < w.heap.size ∧ ∀ j (hj : j < l.length), w.cell? ⟨b, o + j * 4, none⟩ = some (.int .i64 l[j].k) ∧ w.cell? ⟨b, o + j * 4 + 1, none⟩ = some (.int .i64 l[j].n) ∧ w.cell? ⟨b, o + j * 4 + 2, none⟩ = some (.string ⟨l[j].s.toArray⟩) ∧ ∃ A3 c3, w.cell? ⟨b, o + j * 4 + 3, none⟩ = some (.slice A3 l[j].l.length c3) ∧ (layE0 ty).row.P F w (.slice A3 l[j].l.length c3) l[j].l := by
  obtain ⟨A', c', h1, h2, h3, h4⟩ := h
  obtain ⟨b, o, h5, h6, h7, h8⟩ := h4 hn
  injection h1 with e1 _ _
  subst e1
  refine ⟨b, o, h5, h7, fun j hj => ?_⟩
  obtain ⟨u0, k0, p0⟩ := h8 j hj 0 (by show 0 < 4; omega)
  obtain ⟨u1, k1, p1⟩ := h8 j hj 1 (by show 1 < 4; omega)
  obtain ⟨u2, k2, p2⟩ := h8 j hj 2 (by show 2 < 4; omega)
  obtain ⟨u3, k3, p3⟩ := h8 j hj 3 (by show 3 < 4; omega)
  have p0' : u0 = .int .i64 l[j].k := p0
  have p1' : u1 = .int .i64 l[j].n := p1
  have p2' : u2 = .string ⟨l[j].s.toArray⟩ := p2
  have p3' : (layE0 ty).row.P F w u3 l[j].l := p3
  obtain ⟨A3, c3, e3⟩ := Lay.row_len p3'
  subst p0' p1' p2' e3
  exact ⟨k0, k1, k2, A3, c3, k3, p3'⟩
theorem row_it {ty te : TypeId} {F : Nat → Prop} {w : World} {A : Option Addr} {n c : Nat} {l : List It} (h : (layI ty te).row.P F w (.slice A n c) l) (hn : l ≠ []) :
    ∃ b o, A = some ⟨b, o, none⟩ ∧ b < w.heap.size ∧ ∀ j (hj : j < l.length), w.cell? ⟨b, o + j * 8, none⟩ = some (.int .i64 l[j].k) ∧ w.cell? ⟨b, o + j * 8 + 1, none⟩ = some (.string ⟨l[j].name.toArray⟩) ∧ w.cell? ⟨b, o + j * 8 + 2, none⟩ = some (.bool l[j].bool) ∧ w.cell? ⟨b, o + j * 8 + 4, none⟩ = some (.int .i64 l[j].size) ∧ w.cell? ⟨b, o + j * 8 + 5, none⟩ = some (.bool l[j].out) ∧ w.cell? ⟨b, o + j * 8 + 7, none⟩ = some (.int .i64 l[j].ask) ∧
      (∃ A3 c3, w.cell? ⟨b, o + j * 8 + 3, none⟩ = some (.slice A3 l[j].dom.length c3) ∧ layR.row.P F w (.slice A3 l[j].dom.length c3) l[j].dom) ∧ (∃ A6 c6, w.cell? ⟨b, o + j * 8 + 6, none⟩ = some (.slice A6 l[j].vals.length c6) ∧ (layE te).row.P F w (.slice A6 l[j].vals.length c6) l[j].vals) := by
  obtain ⟨A', c', h1, h2, h3, h4⟩ := h
  obtain ⟨b, o, h5, h6, h7, h8⟩ := h4 hn
  injection h1 with e1 _ _
  subst e1
  refine ⟨b, o, h5, h7, fun j hj => ?_⟩
  obtain ⟨u0, k0, p0⟩ := h8 j hj 0 (by show 0 < 8; omega)
  obtain ⟨u1, k1, p1⟩ := h8 j hj 1 (by show 1 < 8; omega)
  obtain ⟨u2, k2, p2⟩ := h8 j hj 2 (by show 2 < 8; omega)
  obtain ⟨u3, k3, p3⟩ := h8 j hj 3 (by show 3 < 8; omega)
  obtain ⟨u4, k4, p4⟩ := h8 j hj 4 (by show 4 < 8; omega)
  obtain ⟨u5, k5, p5⟩ := h8 j hj 5 (by show 5 < 8; omega)
  obtain ⟨u6, k6, p6⟩ := h8 j hj 6 (by show 6 < 8; omega)
  obtain ⟨u7, k7, p7⟩ := h8 j hj 7 (by show 7 < 8; omega)
  have p0' : u0 = .int .i64 l[j].k := p0
  have p1' : u1 = .string ⟨l[j].name.toArray⟩ := p1
  have p2' : u2 = .bool l[j].bool := p2
  have p3' : layR.row.P F w u3 l[j].dom := p3
  have p4' : u4 = .int .i64 l[j].size := p4
  have p5' : u5 = .bool l[j].out := p5
  have p6' : (layE te).row.P F w u6 l[j].vals := p6
  have p7' : u7 = .int .i64 l[j].ask := p7
  obtain ⟨A3, c3, e3⟩ := Lay.row_len p3'
  obtain ⟨A6, c6, e6⟩ := Lay.row_len p6'
  subst p0' p1' p2' e3 p4' p5' e6 p7'
  exact ⟨k0, k1, k2, k4, k5, k7, ⟨A3, c3, k3, p3'⟩, A6, c6, k6, p6'⟩
theorem ne_bool {a b : Int} (h : a ≠ b) : (a != b) = true := by simpa using h
theorem lt_ne {α : Type} {l : List α} {j : Nat} (h : j < l.length) : l ≠ [] := by
  rintro rfl
  exact absurd h (Nat.not_lt_zero _)
/-- What an element holds, once a block that it looks into not was made. -/
theorem e0_new {ty : TypeId} {y : Ex0} {A : Option Addr} {c : Nat} {F : Nat → Prop} {w : World} : ∀ k, k < (layE0 ty).sz → ∃ u, (#[.int .i64 y.k, .int .i64 y.n, .string ⟨y.s.toArray⟩, .slice A y.m c] : Array Value).toList[k]? = some u ∧ ((layE0 ty).C k).P F w u y := fun k hk => by
  have hk4 : k < 4 := hk
  match k, hk4 with
  | 0, _ => exact ⟨_, rfl, rfl⟩
  | 1, _ => exact ⟨_, rfl, rfl⟩
  | 2, _ => exact ⟨_, rfl, rfl⟩
  | 3, _ => exact ⟨_, rfl, A, c, rfl⟩
theorem ex_new {ty : TypeId} {x : Ex} {S : Value} {F : Nat → Prop} {w : World} (h : (layE0 ty).row.P F w S x.l) : ∀ k, k < (layE ty).sz → ∃ u, (#[.int .i64 x.k, .int .i64 x.n, .string ⟨x.s.toArray⟩, S] : Array Value).toList[k]? = some u ∧ ((layE ty).C k).P F w u x := fun k hk => by
  have hk4 : k < 4 := hk
  match k, hk4 with
  | 0, _ => exact ⟨_, rfl, rfl⟩
  | 1, _ => exact ⟨_, rfl, rfl⟩
  | 2, _ => exact ⟨_, rfl, rfl⟩
  | 3, _ => exact ⟨_, rfl, h⟩
theorem info_rexs : (Tryz.prog.info? 50).map (fun i => (i.zero, i.size, i.bytes)) = some (some (.agg #[.int .i64 0, .int .i64 0, .string ⟨#[]⟩, .slice none 0 0]), 4, 56) := by kernel_rfl
set_option maxRecDepth 100000 in
set_option maxHeartbeats 8000000 in
theorem ours_exprs {F : Nat → Prop} (A : Option Addr) (c : Nat) (l : List Ex) (w : World) (h : (layE 102).row.P F w (.slice A l.length c) l) (hn : l.length ≤ 10000) (hm : ∀ x ∈ l, x.l.length ≤ 10000) :
    Calls Tryz.prog 27 #[.slice A l.length c] w fun e w' => (∃ v, e = .returned v ∧ (layE 50).own w.heap.size w' v (l.map Ex.flat)) ∧ Below w.heap.size w w' := by
  have HM := Lib.hid hm
  clear hm
  go_enter Tryz.func27, Tryz.ntmps27
  go_wp2_with fail
  go_loopg [3, 12] l.length (fun k v a wr => ∃ j, k = l.length - j ∧ j ≤ l.length ∧ a = .int .i64 (j : Nat) ∧ (layE 50).own w.heap.size wr v ((l.take j).map Ex.flat) ∧ Below w.heap.size w wr)
  case atStart => exact ⟨0, rfl, Nat.zero_le _, rfl, Lay.own_nil _ _ _, Below.refl _ _⟩
  case round =>
    obtain ⟨j, hk, hj, rfl, ho, hb⟩ := hrel
    by_cases hlt : j < l.length
    · have d1 : decide ((j : Int) < (l.length : Int)) = true := decide_eq_true (by omega)
      have hw := Dt.below _ h hb (Nat.le_refl _)
      obtain ⟨b, o, hA, hbl, hc⟩ := row_ex hw (lt_ne hlt)
      obtain ⟨c1, c2, c3, A3, n3, c4, h3⟩ := hc j hlt
      have hs : (l.take (j + 1)).map Ex.flat = (l.take j).map Ex.flat ++ [l[j].flat] := by rw [take_snoc hlt, List.map_append]; rfl
      have HS := Lib.hid hs
      have hm1 := HM.out l[j] (List.getElem_mem hlt)
      have hlen : ((l.take j).map Ex.flat).length ≤ 1000000 := by rw [List.length_map, List.length_take]; omega
      have hb2 := below_trans hb (below_alloc1 wr (.cells #[.int .i64 l[j].k, .int .i64 l[j].n, .string ⟨l[j].s.toArray⟩, .slice A3 l[j].l.length n3] 102))
      have h32 := Dt.below _ h3 (below_alloc1 wr (.cells #[.int .i64 l[j].k, .int .i64 l[j].n, .string ⟨l[j].s.toArray⟩, .slice A3 l[j].l.length n3] 102)) (Nat.le_refl _)
      have ho2 := Lay.own_below ho (below_alloc1 wr (.cells #[.int .i64 l[j].k, .int .i64 l[j].n, .string ⟨l[j].s.toArray⟩, .slice A3 l[j].l.length n3] 102))
      have k5 : Blk (wr.alloc (.cells #[.int .i64 l[j].k, .int .i64 l[j].n, .string ⟨l[j].s.toArray⟩, .slice A3 l[j].l.length n3] 102)) wr.heap.size 102 #[.int .i64 l[j].k, .int .i64 l[j].n, .string ⟨l[j].s.toArray⟩, .slice A3 l[j].l.length n3] := Blk.new ..
      obtain ⟨f1, f2, f3, f4⟩ := Blk.four (a := .int .i64 l[j].k) (b := .int .i64 l[j].n) (c := .string ⟨l[j].s.toArray⟩) (d := .slice A3 l[j].l.length n3) k5
      clear hs hw hc h3
      subst hA
      go_wp2_with fail
      have hz5 : wr.heap.size < (wr.alloc (.cells #[.int .i64 l[j].k, .int .i64 l[j].n, .string ⟨l[j].s.toArray⟩, .slice A3 l[j].l.length n3] 102)).heap.size := by simp
      generalize wr.alloc (.cells #[.int .i64 l[j].k, .int .i64 l[j].n, .string ⟨l[j].s.toArray⟩, .slice A3 l[j].l.length n3] 102) = w5 at *
      go_loopg [6, 19] l[j].l.length (fun k v a w6 => ∃ i, k = l[j].l.length - i ∧ i ≤ l[j].l.length ∧ a = .int .i64 (i : Nat) ∧ (layE0 50).own w5.heap.size w6 v ((l[j].l.take i).map Ex0.flat) ∧ Below w5.heap.size w5 w6)
      case atStart => exact ⟨0, rfl, Nat.zero_le _, rfl, Lay.own_nil _ _ _, Below.refl _ _⟩
      case round =>
        obtain ⟨i, hk2, hi, rfl, ho3, hb3⟩ := hrel
        by_cases hlt2 : i < l[j].l.length
        · have d2 : decide ((i : Int) < (l[j].l.length : Int)) = true := decide_eq_true (by omega)
          obtain ⟨b2, o2, hA2, hbl2, hc2⟩ := row_e0 (Dt.below _ h32 hb3 (Nat.le_refl _)) (lt_ne hlt2)
          obtain ⟨g1, g2, g3, A4, n4, g4⟩ := hc2 i hlt2
          have hs2 : (l[j].l.take (i + 1)).map Ex0.flat = (l[j].l.take i).map Ex0.flat ++ [l[j].l[i].flat] := by rw [take_snoc hlt2, List.map_append]; rfl
          have HS2 := Lib.hid hs2
          have hlen2 : ((l[j].l.take i).map Ex0.flat).length ≤ 1000000 := by rw [List.length_map, List.length_take]; omega
          clear hs2 hc2
          generalize l[j].l[i] = y at *
          obtain ⟨yk, yn, ys, ym⟩ := y
          have hp2 := below_trans (below_alloc1 wr (.cells #[.int .i64 yk, .int .i64 yn, .string ⟨ys.toArray⟩, .slice A4 ym n4] 102)) (below_alloc1 _ (.cells #[.int .i64 yk, .int .i64 yn, .string ⟨ys.toArray⟩, .slice none 0 0] 50))
          have kb : Blk ((wr.alloc (.cells #[.int .i64 yk, .int .i64 yn, .string ⟨ys.toArray⟩, .slice A4 ym n4] 102)).alloc (.cells #[.int .i64 yk, .int .i64 yn, .string ⟨ys.toArray⟩, .slice none 0 0] 50)) (wr.heap.size + 1) 50 #[.int .i64 yk, .int .i64 yn, .string ⟨ys.toArray⟩, .slice none 0 0] := Blk.at_ (by simp)
          subst hA2
          obtain ⟨A7, n7, hv7⟩ := Lay.own_len ho3
          subst hv7
          cases ym with
          | zero =>
            have ho4 := Lay.own_below ho3 hp2
            have hs4 : w5.heap.size ≤ _ := (hb3.trans (hp2.mono hb3.size)).size
            have hb4 := hb3.trans (hp2.mono hb3.size)
            clear kb hp2
            go_wp2_with (at_builtin; refine Lay.wp_app (layE0 50) _ _ ((wr.alloc (.cells #[.int .i64 yk, .int .i64 yn, .string ⟨ys.toArray⟩, .slice A4 0 n4] 102)).alloc (.cells #[.int .i64 yk, .int .i64 yn, .string ⟨ys.toArray⟩, .slice none 0 0] 50)) w5.heap.size _ _ ⟨yk, yn, ys, 0⟩ #[.int .i64 yk, .int .i64 yn, .string ⟨ys.toArray⟩, .slice none 0 0] (by first | rfl | simp) Tryz.underlying26 info_rexs rfl (by decide) (by decide) ho4 hs4 hlen2 rfl rfl (e0_new (y := ⟨yk, yn, ys, 0⟩) (A := none) (c := 0)) rfl rfl rfl rfl ?_; intro v7 w7 ho7 hg7 hb7 _)
            go_roundg (l[j].l.length - (i + 1))
            case measure => omega
            case rel => exact ⟨i + 1, rfl, by omega, by simp, by rw [HS2.out]; exact ho7, hb4.trans hb7⟩
          | succ m =>
            have d3 : decide ((0 : Int) < ((m : Int) + 1)) = true := decide_eq_true (by omega)
            have hp3 := below_trans (below_trans (below_alloc1 wr (.cells #[.int .i64 yk, .int .i64 yn, .string ⟨ys.toArray⟩, .slice A4 (m + 1) n4] 102)) (below_alloc1 _ (.cells #[.int .i64 yk, .int .i64 yn, .string ⟨ys.toArray⟩, .slice (some ⟨wr.heap.size + 1 + 1, 0, none⟩) 1 1] 50))) (below_alloc1 _ (.cells #[.int .i64 0, .int .i64 0, .string ⟨#[]⟩, .slice none 0 0] 50))
            have ho4 := Lay.own_below ho3 hp3
            have hb4 := hb3.trans (hp3.mono hb3.size)
            have hs4 := hb4.size
            clear kb hp2 hp3
            go_wp2_with (at_builtin; refine Lay.wp_app (layE0 50) _ _ (((wr.alloc (.cells #[.int .i64 yk, .int .i64 yn, .string ⟨ys.toArray⟩, .slice A4 (m + 1) n4] 102)).alloc (.cells #[.int .i64 yk, .int .i64 yn, .string ⟨ys.toArray⟩, .slice (some ⟨wr.heap.size + 1 + 1, 0, none⟩) 1 1] 50)).alloc (.cells #[.int .i64 0, .int .i64 0, .string ⟨#[]⟩, .slice none 0 0] 50)) w5.heap.size _ _ ⟨yk, yn, ys, 1⟩ #[.int .i64 yk, .int .i64 yn, .string ⟨ys.toArray⟩, .slice (some ⟨wr.heap.size + 1 + 1, 0, none⟩) 1 1] (by first | rfl | simp) Tryz.underlying26 info_rexs rfl (by decide) (by decide) ho4 hs4 hlen2 rfl rfl (e0_new (y := ⟨yk, yn, ys, 1⟩) (A := some ⟨wr.heap.size + 1 + 1, 0, none⟩) (c := 1)) rfl rfl rfl rfl ?_; intro v7 w7 ho7 hg7 hb7 _)
            go_roundg (l[j].l.length - (i + 1))
            case measure => omega
            case rel => exact ⟨i + 1, rfl, by omega, by simp, by rw [HS2.out]; exact ho7, hb4.trans hb7⟩
        · have d2 : decide ((i : Int) < (l[j].l.length : Int)) = false := decide_eq_false (by omega)
          have e2 : l[j].l.take i = l[j].l := List.take_of_length_le (by omega)
          rw [e2] at ho3
          obtain ⟨A6, n6, hv6⟩ := Lay.own_len ho3
          rw [List.length_map] at hv6
          have ho6 := Lay.own_below ho2 (hb3.mono (Nat.le_refl _))
          obtain ⟨m1, m2, m3, m4⟩ := Blk.four (a := .int .i64 l[j].k) (b := .int .i64 l[j].n) (c := .string ⟨l[j].s.toArray⟩) (d := .slice A3 l[j].l.length n3) (k5.below hb3 (Nat.le_refl _))
          have hw5 := hb2.size
          have hrow := (layE0 50).row.mono (F' := inF w.heap.size wr u3) (fun b hb => ⟨Nat.le_trans hw5 hb.1, hb.2, fun e => by have := (Lay.own_lt ho2 b e).2; have := hb.1; omega⟩) (Lay.own_row ho3)
          subst hv6
          have hnew := ex_new (ty := 50) (x := l[j].flat) hrow
          have HN := Lib.hid hnew
          have hs6 := Nat.le_trans hw5 hb3.size
          have hb6 := hb2.trans (hb3.mono hw5)
          clear e2 hnew hrow
          go_wp2_with (at_builtin; refine Lay.wp_app (layE 50) _ _ wr w.heap.size _ _ l[j].flat #[.int .i64 l[j].k, .int .i64 l[j].n, .string ⟨l[j].s.toArray⟩, .slice A6 l[j].l.length n6] (by first | rfl | simp) Tryz.underlying26 info_rexs rfl (by decide) (by decide) ho6 hs6 hlen rfl rfl HN.out rfl rfl rfl rfl ?_; intro v7 w7 ho7 hg7 hb7 _)
          go_roundg (l.length - (j + 1))
          case measure => omega
          case rel => exact ⟨j + 1, rfl, by omega, by simp, by rw [HS.out]; exact ho7, hb6.trans hb7⟩
    · have d1 : decide ((j : Int) < (l.length : Int)) = false := decide_eq_false (by omega)
      have e1 : l.take j = l := List.take_of_length_le (by omega)
      rw [e1] at ho
      go_wp2
      go_ret
      exact ⟨⟨_, rfl, ho⟩, hb⟩
/-- A way to read that does not hang on what is written later. -/
def Dt.at_ {α : Type} (D : Dt α) (w0 : World) (S : Nat → Prop) : Dt α := ⟨fun _ _ v a => D.P S w0 v a, fun _ h => h, fun _ _ h => h⟩
/-- Items whose domains lie in memory that a world w0 had. -/
def layIat (w0 : World) (S : Nat → Prop) (ty te : TypeId) : Lay It := ⟨ty, 8, fun
  | 0 => .eq fun x => .int .i64 x.k
  | 1 => .eq fun x => .string ⟨x.name.toArray⟩
  | 2 => .eq fun x => .bool x.bool
  | 3 => (layR.row.at_ w0 S).via (·.dom)
  | 4 => .eq fun x => .int .i64 x.size
  | 5 => .eq fun x => .bool x.out
  | 6 => (layE te).row.via (·.vals)
  | _ => .eq fun x => .int .i64 x.ask⟩
theorem row_now {w0 w : World} {S F : Nat → Prop} {ty te : TypeId} {v : Value} {l : List It} (h : (layIat w0 S ty te).row.P F w v l) (hb : Below w0.heap.size w0 w) : (layI ty te).row.P (fun _ => True) w v l := by
  obtain ⟨A, c, h1, h2, h3, h4⟩ := h
  refine ⟨A, c, h1, h2, h3, fun hn => ?_⟩
  obtain ⟨b, o, h5, h6, h7, h8⟩ := h4 hn
  refine ⟨b, o, h5, trivial, h7, fun j hj k hk => ?_⟩
  obtain ⟨x, hx, hp⟩ := h8 j hj k hk
  refine ⟨x, hx, ?_⟩
  have hk8 : k < 8 := hk
  match k, hk8 with
  | 0, _ => exact hp
  | 1, _ => exact hp
  | 2, _ => exact hp
  | 3, _ =>
    have hp' : layR.row.P S w0 x l[j].dom := hp
    exact (layR.row).mono (fun _ _ => trivial) (Dt.below _ hp' hb (Nat.le_refl _))
  | 4, _ => exact hp
  | 5, _ => exact hp
  | 6, _ => exact ((layE te).row).mono (fun _ _ => trivial) hp
  | 7, _ => exact hp
theorem it_new {ty te : TypeId} {w0 : World} {S : Nat → Prop} {x : It} {D V : Value} {F : Nat → Prop} {w : World} (hd : layR.row.P S w0 D x.dom) (h : (layE te).row.P F w V x.vals) : ∀ k, k < (layIat w0 S ty te).sz → ∃ u, (#[.int .i64 x.k, .string ⟨x.name.toArray⟩, .bool x.bool, D, .int .i64 x.size, .bool x.out, V, .int .i64 x.ask] : Array Value).toList[k]? = some u ∧ ((layIat w0 S ty te).C k).P F w u x := fun k hk => by
  have hk8 : k < 8 := hk
  match k, hk8 with
  | 0, _ => exact ⟨_, rfl, rfl⟩
  | 1, _ => exact ⟨_, rfl, rfl⟩
  | 2, _ => exact ⟨_, rfl, rfl⟩
  | 3, _ => exact ⟨_, rfl, hd⟩
  | 4, _ => exact ⟨_, rfl, rfl⟩
  | 5, _ => exact ⟨_, rfl, rfl⟩
  | 6, _ => exact ⟨_, rfl, h⟩
  | 7, _ => exact ⟨_, rfl, rfl⟩
theorem info_ritem : (Tryz.prog.info? 28).map (fun i => (i.zero, i.size, i.bytes)) = some (some (.agg #[.int .i64 0, .string ⟨#[]⟩, .bool false, .slice none 0 0, .int .i64 0, .bool false, .slice none 0 0, .int .i64 0]), 8, 104) := by kernel_rfl
set_option maxRecDepth 100000 in
set_option maxHeartbeats 8000000 in
theorem ours_items {F : Nat → Prop} (A : Option Addr) (c : Nat) (l : List It) (w0 w : World) (h0 : (layI 47 102).row.P F w0 (.slice A l.length c) l) (hw0 : Below w0.heap.size w0 w) (hn : l.length ≤ 10000) (hm : ∀ x ∈ l, x.vals.length ≤ 10000 ∧ ∀ y ∈ x.vals, y.l.length ≤ 10000) :
    Calls Tryz.prog 14 #[.slice A l.length c] w fun e w' => (∃ v, e = .returned v ∧ (layIat w0 F 28 50).own w.heap.size w' v (l.map It.flat)) ∧ Below w.heap.size w w' := by
  have HM := Lib.hid hm
  clear hm
  go_enter Tryz.func14, Tryz.ntmps14
  go_wp2_with fail
  go_loopg [3, 8] l.length (fun k v a wr => ∃ j, k = l.length - j ∧ j ≤ l.length ∧ a = .int .i64 (j : Nat) ∧ (layIat w0 F 28 50).own w.heap.size wr v ((l.take j).map It.flat) ∧ Below w.heap.size w wr ∧ Below w0.heap.size w0 wr)
  case atStart => exact ⟨0, rfl, Nat.zero_le _, rfl, Lay.own_nil _ _ _, Below.refl _ _, hw0⟩
  case round =>
    obtain ⟨j, hk, hj, rfl, ho, hb, hb0⟩ := hrel
    by_cases hlt : j < l.length
    · have d1 : decide ((j : Int) < (l.length : Int)) = true := decide_eq_true (by omega)
      obtain ⟨A', c', hAA, hlc, hcm, hrow⟩ := h0
      obtain ⟨b, o, hA, hF, hbl, hcell⟩ := hrow (lt_ne hlt)
      obtain ⟨u3, hu3, hdom⟩ := hcell j hlt 3 (by show 3 < 8; omega)
      have hdom0 : layR.row.P F w0 u3 l[j].dom := hdom
      have hw := Dt.below (layI 47 102).row (F := F) (v := .slice A l.length c) (a := l) ⟨A', c', hAA, hlc, hcm, hrow⟩ hb0 (Nat.le_refl _)
      obtain ⟨b', o', hA', hbl', hc⟩ := row_it hw (lt_ne hlt)
      obtain ⟨f0, f1, f2, f4, f5, f7, ⟨A3, n3, f3, -⟩, A6, n6, f6, h6⟩ := hc j hlt
      have hAe : A = A' := by injection hAA
      subst hAe
      rw [hA] at hA'
      injection hA' with hA'
      injection hA' with e1 e2 _
      subst e1 e2
      have hu : u3 = .slice A3 l[j].dom.length n3 := by
        have := (hb0.cell (p := ⟨b, o + j * 8 + 3, none⟩) hbl).symm.trans f3
        exact Option.some.inj (hu3.symm.trans this)
      subst hu
      subst hA
      have hm1 := HM.out l[j] (List.getElem_mem hlt)
      have hs : (l.take (j + 1)).map It.flat = (l.take j).map It.flat ++ [l[j].flat] := by rw [take_snoc hlt, List.map_append]; rfl
      have HS := Lib.hid hs
      have hlen : ((l.take j).map It.flat).length ≤ 1000000 := by rw [List.length_map, List.length_take]; omega
      obtain ⟨A9, c9, hv⟩ := Lay.own_len ho
      generalize ((l.take j).map It.flat).length = m9 at hv
      subst hv
      have hne : some wr.heap.size ≠ Value.ownBlock (.slice A9 m9 c9) := fun e => by have := (Lay.own_lt ho _ e.symm).2; omega
      clear hs hw hc hrow hdom hcell hAA hu3
      generalize l[j] = x at *
      obtain ⟨xk, xn, xb, xd, xz, xo, xv, xa⟩ := x
      dsimp only at f0 f1 f2 f3 f4 f5 f6 f7 hdom0 h6 hm1
      have hb2 := below_trans hb (below_alloc1 wr (.cells #[.int .i64 xk, .string ⟨xn.toArray⟩, .bool xb, .slice A3 xd.length n3, .int .i64 xz, .bool xo, .slice A6 xv.length n6, .int .i64 xa] 47))
      have hb3 := below_trans hb0 (below_alloc1 wr (.cells #[.int .i64 xk, .string ⟨xn.toArray⟩, .bool xb, .slice A3 xd.length n3, .int .i64 xz, .bool xo, .slice A6 xv.length n6, .int .i64 xa] 47))
      have ho2 := Lay.own_below ho (below_alloc1 wr (.cells #[.int .i64 xk, .string ⟨xn.toArray⟩, .bool xb, .slice A3 xd.length n3, .int .i64 xz, .bool xo, .slice A6 xv.length n6, .int .i64 xa] 47))
      have h62 := Dt.below _ h6 (below_alloc1 wr (.cells #[.int .i64 xk, .string ⟨xn.toArray⟩, .bool xb, .slice A3 xd.length n3, .int .i64 xz, .bool xo, .slice A6 xv.length n6, .int .i64 xa] 47)) (Nat.le_refl _)
      have k5 : Blk (wr.alloc (.cells #[.int .i64 xk, .string ⟨xn.toArray⟩, .bool xb, .slice A3 xd.length n3, .int .i64 xz, .bool xo, .slice A6 xv.length n6, .int .i64 xa] 47)) wr.heap.size 47 #[.int .i64 xk, .string ⟨xn.toArray⟩, .bool xb, .slice A3 xd.length n3, .int .i64 xz, .bool xo, .slice A6 xv.length n6, .int .i64 xa] := Blk.new ..
      go_upto_region 5 with fail
      clear f0 f1 f2 f3 f4 f5 f6 f7 h6 ho
      generalize hW : wr.alloc (.cells #[.int .i64 xk, .string ⟨xn.toArray⟩, .bool xb, .slice A3 xd.length n3, .int .i64 xz, .bool xo, .slice A6 xv.length n6, .int .i64 xa] 47) = W at *
      clear hW
      have hbase := hb2.size
      have hcall : ∀ w9, Below W.heap.size W w9 → Calls Tryz.prog 27 #[.slice A6 xv.length n6] w9 fun e w' => (∃ S, e = .returned S ∧ (layE 50).row.P (since W.heap.size w') w' S (xv.map Ex.flat)) ∧ Below w9.heap.size w9 w' := fun w9 q =>
        (ours_exprs A6 n6 xv w9 (Dt.below _ h62 q (Nat.le_refl _)) hm1.1 hm1.2).mono fun e w' ⟨⟨v, e1, e2⟩, e3⟩ => ⟨⟨v, e1, (layE _).row.mono (fun b hb => ⟨Nat.le_trans q.size hb.1, hb.2⟩) (Lay.own_row e2)⟩, e3⟩
      have hsh : ∀ {w3 : World} {S : Value}, (layE 50).row.P (since W.heap.size w3) w3 S (xv.map Ex.flat) → ∃ A c, S = .slice A xv.length c := fun h => by
        obtain ⟨A, c, e⟩ := Lay.row_len h
        rw [List.length_map] at e
        exact ⟨A, c, e⟩
      have hnew : ∀ (w3 : World) (S : Value), Below W.heap.size W w3 → (layE 50).row.P (since W.heap.size w3) w3 S (xv.map Ex.flat) → ∀ k, k < (layIat w0 F 28 50).sz → ∃ u, (#[.int .i64 xk, .string ⟨xn.toArray⟩, .bool xb, .slice A3 xd.length n3, .int .i64 xz, .bool xo, S, .int .i64 xa] : Array Value).toList[k]? = some u ∧ ((layIat w0 F 28 50).C k).P (inF w.heap.size w3 (.slice A9 m9 c9)) w3 u (It.flat ⟨xk, xn, xb, xd, xz, xo, xv, xa⟩) := fun w3 S q hR =>
        it_new (x := It.flat ⟨xk, xn, xb, xd, xz, xo, xv, xa⟩) hdom0 ((layE 50).row.mono (fun b hb => ⟨Nat.le_trans hbase hb.1, hb.2, fun e => by have := (Lay.own_lt ho2 _ e).2; have := hb.1; omega⟩) hR)
      have HC := Lib.hid hcall
      have HN := Lib.hid hnew
      clear hcall hnew HM
      refine region_gen0 (n := 22) (frame := ?frame1) (fun L s w' => (L 21 = false → s 21 = .slice A9 m9 c9) ∧ (L 0 = true → s 0 = .slice A9 m9 c9) ∧ (L 1 = true → s 1 = .pointer (some ⟨wr.heap.size, 0, none⟩)) ∧ (L 2 = true → s 2 = .int .i64 xk) ∧ (L 3 = true → s 3 = .pointer (some ⟨wr.heap.size, 1, none⟩)) ∧ (L 4 = true → s 4 = .string ⟨xn.toArray⟩) ∧ (L 5 = true → s 5 = .pointer (some ⟨wr.heap.size, 2, none⟩)) ∧ (L 6 = true → s 6 = .bool xb) ∧ (L 7 = true → s 7 = .pointer (some ⟨wr.heap.size, 3, none⟩)) ∧ (L 8 = true → s 8 = .slice A3 xd.length n3) ∧ (L 9 = true → s 9 = .pointer (some ⟨wr.heap.size, 4, none⟩)) ∧ (L 10 = true → s 10 = .int .i64 xz) ∧ (L 11 = true → s 11 = .pointer (some ⟨wr.heap.size, 5, none⟩)) ∧ (L 12 = true → s 12 = .bool xo) ∧ (L 13 = true → s 13 = .pointer (some ⟨wr.heap.size, 6, none⟩)) ∧ (L 14 = true → s 14 = .slice A6 xv.length n6) ∧ (L 16 = true → s 16 = .pointer (some ⟨wr.heap.size, 7, none⟩)) ∧ (L 17 = true → s 17 = .int .i64 xa) ∧ (L 18 = true → s 18 = .agg (((fun S => #[.int .i64 xk, .string ⟨xn.toArray⟩, .bool xb, .slice A3 xd.length n3, .int .i64 xz, .bool xo, S, .int .i64 xa]) : Value → Array Value) (s 15))) ∧ (L 21 = true → s 21 = s 20) ∧ Blk w' (wr.heap.size) 47 #[.int .i64 xk, .string ⟨xn.toArray⟩, .bool xb, .slice A3 xd.length n3, .int .i64 xz, .bool xo, .slice A6 xv.length n6, .int .i64 xa] ∧ PhA (layIat w0 F 28 50) (W) (w.heap.size) ((l.take j).map It.flat) (It.flat ⟨xk, xn, xb, xd, xz, xo, xv, xa⟩) (fun w3 S => (layE 50).row.P (since W.heap.size w3) w3 S (xv.map Ex.flat)) ((fun S => #[.int .i64 xk, .string ⟨xn.toArray⟩, .bool xb, .slice A3 xd.length n3, .int .i64 xz, .bool xo, S, .int .i64 xa]) : Value → Array Value) (L 15) (L 19) (L 20) (s 15) (s 19) (s 20) w') (by kernel_rfl) (by kernel_rfl) (by kernel_rfl) rfl ?_ ?_ ?_ ?_
      case refine_1 => exact ⟨fun _ => rfl, fun h => no_f h, fun h => no_f h, fun h => no_f h, fun h => no_f h, fun h => no_f h, fun h => no_f h, fun h => no_f h, fun h => no_f h, fun h => no_f h, fun h => no_f h, fun h => no_f h, fun h => no_f h, fun h => no_f h, fun h => no_f h, fun h => no_f h, fun h => no_f h, fun h => no_f h, fun h => no_f h, fun h => no_f h, (k5).drew, ⟨fun _ => (Read.refl _).drew.below _, fun h => no_f h, fun h => no_f h, fun h => no_f h⟩⟩
      case refine_2 =>
        intro s
        simp only [fr, Act.put, List.append_eq, List.cons_append, List.nil_append, List.setIfInBounds_toArray, List.set_cons_zero, List.set_cons_succ, Nat.reduceAdd]
        rfl
      case refine_3 =>
        refine Steps.cons 0 (j := 1) rfl ?_ (Steps.cons 1 (j := 2) rfl ?_ (Steps.cons 2 (j := 3) rfl ?_ (Steps.cons 3 (j := 4) rfl ?_ (Steps.cons 4 (j := 5) rfl ?_ (Steps.cons 5 (j := 6) rfl ?_ (Steps.cons 6 (j := 7) rfl ?_ (Steps.cons 7 (j := 8) rfl ?_ (Steps.cons 8 (j := 9) rfl ?_ (Steps.cons 9 (j := 10) rfl ?_ (Steps.cons 10 (j := 11) rfl ?_ (Steps.cons 11 (j := 12) rfl ?_ (Steps.cons 12 (j := 13) rfl ?_ (Steps.cons 13 (j := 14) rfl ?_ (Steps.cons 14 (j := 15) rfl ?_ (Steps.cons 15 (j := 16) rfl ?_ (Steps.cons 16 (j := 17) rfl ?_ (Steps.cons 17 (j := 18) rfl ?_ (Steps.cons 18 (j := 19) rfl ?_ (Steps.cons 19 (j := 20) rfl ?_ (Steps.cons 20 (j := 21) rfl ?_ (Steps.cons 21 (j := 22) rfl ?_ Steps.nil)))))))))))))))))))))
        · intro L s w9 hN hU hi hC hS K hK
          dsimp only at hK ⊢
          simp only [Act.put, List.setIfInBounds_toArray, List.set_cons_zero, List.set_cons_succ] at hK
          obtain ⟨h_1021, h_0, h_1, h_2, h_3, h_4, h_5, h_6, h_7, h_8, h_9, h_10, h_11, h_12, h_13, h_14, h_16, h_17, h_18, h_21, hBk, hP⟩ := hS
          refine ite_of rfl ?_
          have e_z := h_1021 (Shut.no hC 21 20 rfl rfl (hU.out 20 _ rfl rfl))
          simp only [e_z] at hK ⊢
          go_simp
          refine hK.out _ _ ?_
          exact ⟨h_1021, fun _ => rfl, h_1, h_2, h_3, h_4, h_5, h_6, h_7, h_8, h_9, h_10, h_11, h_12, h_13, h_14, h_16, h_17, h_18, h_21, hBk, hP⟩
        · intro L s w9 hN hU hi hC hS K hK
          dsimp only at hK ⊢
          simp only [Act.put, List.setIfInBounds_toArray, List.set_cons_zero, List.set_cons_succ] at hK
          obtain ⟨h_1021, h_0, h_1, h_2, h_3, h_4, h_5, h_6, h_7, h_8, h_9, h_10, h_11, h_12, h_13, h_14, h_16, h_17, h_18, h_21, hBk, hP⟩ := hS
          refine ite_of rfl ?_
          go_simp
          refine hK.out _ _ ?_
          exact ⟨h_1021, h_0, fun _ => rfl, h_2, h_3, h_4, h_5, h_6, h_7, h_8, h_9, h_10, h_11, h_12, h_13, h_14, h_16, h_17, h_18, h_21, hBk, hP⟩
        · intro L s w9 hN hU hi hC hS K hK
          dsimp only at hK ⊢
          simp only [Act.put, List.setIfInBounds_toArray, List.set_cons_zero, List.set_cons_succ] at hK
          obtain ⟨h_1021, h_0, h_1, h_2, h_3, h_4, h_5, h_6, h_7, h_8, h_9, h_10, h_11, h_12, h_13, h_14, h_16, h_17, h_18, h_21, hBk, hP⟩ := hS
          refine ite_of rfl ?_
          have e_1 : s 1 = .pointer (some ⟨wr.heap.size, 0, none⟩) := h_1 (hN.out 1 rfl)
          simp only [e_1] at hK ⊢
          obtain ⟨u1, u2, u3, u4, u5, u6, u7, u8⟩ := Blk.eight hBk
          go_simp
          refine hK.out _ _ ?_
          exact ⟨h_1021, h_0, h_1, fun _ => rfl, h_3, h_4, h_5, h_6, h_7, h_8, h_9, h_10, h_11, h_12, h_13, h_14, h_16, h_17, h_18, h_21, hBk, hP⟩
        · intro L s w9 hN hU hi hC hS K hK
          dsimp only at hK ⊢
          simp only [Act.put, List.setIfInBounds_toArray, List.set_cons_zero, List.set_cons_succ] at hK
          obtain ⟨h_1021, h_0, h_1, h_2, h_3, h_4, h_5, h_6, h_7, h_8, h_9, h_10, h_11, h_12, h_13, h_14, h_16, h_17, h_18, h_21, hBk, hP⟩ := hS
          refine ite_of rfl ?_
          go_simp
          refine hK.out _ _ ?_
          exact ⟨h_1021, h_0, h_1, h_2, fun _ => rfl, h_4, h_5, h_6, h_7, h_8, h_9, h_10, h_11, h_12, h_13, h_14, h_16, h_17, h_18, h_21, hBk, hP⟩
        · intro L s w9 hN hU hi hC hS K hK
          dsimp only at hK ⊢
          simp only [Act.put, List.setIfInBounds_toArray, List.set_cons_zero, List.set_cons_succ] at hK
          obtain ⟨h_1021, h_0, h_1, h_2, h_3, h_4, h_5, h_6, h_7, h_8, h_9, h_10, h_11, h_12, h_13, h_14, h_16, h_17, h_18, h_21, hBk, hP⟩ := hS
          refine ite_of rfl ?_
          have e_3 : s 3 = .pointer (some ⟨wr.heap.size, 1, none⟩) := h_3 (hN.out 3 rfl)
          simp only [e_3] at hK ⊢
          obtain ⟨u1, u2, u3, u4, u5, u6, u7, u8⟩ := Blk.eight hBk
          go_simp
          refine hK.out _ _ ?_
          exact ⟨h_1021, h_0, h_1, h_2, h_3, fun _ => rfl, h_5, h_6, h_7, h_8, h_9, h_10, h_11, h_12, h_13, h_14, h_16, h_17, h_18, h_21, hBk, hP⟩
        · intro L s w9 hN hU hi hC hS K hK
          dsimp only at hK ⊢
          simp only [Act.put, List.setIfInBounds_toArray, List.set_cons_zero, List.set_cons_succ] at hK
          obtain ⟨h_1021, h_0, h_1, h_2, h_3, h_4, h_5, h_6, h_7, h_8, h_9, h_10, h_11, h_12, h_13, h_14, h_16, h_17, h_18, h_21, hBk, hP⟩ := hS
          refine ite_of rfl ?_
          go_simp
          refine hK.out _ _ ?_
          exact ⟨h_1021, h_0, h_1, h_2, h_3, h_4, fun _ => rfl, h_6, h_7, h_8, h_9, h_10, h_11, h_12, h_13, h_14, h_16, h_17, h_18, h_21, hBk, hP⟩
        · intro L s w9 hN hU hi hC hS K hK
          dsimp only at hK ⊢
          simp only [Act.put, List.setIfInBounds_toArray, List.set_cons_zero, List.set_cons_succ] at hK
          obtain ⟨h_1021, h_0, h_1, h_2, h_3, h_4, h_5, h_6, h_7, h_8, h_9, h_10, h_11, h_12, h_13, h_14, h_16, h_17, h_18, h_21, hBk, hP⟩ := hS
          refine ite_of rfl ?_
          have e_5 : s 5 = .pointer (some ⟨wr.heap.size, 2, none⟩) := h_5 (hN.out 5 rfl)
          simp only [e_5] at hK ⊢
          obtain ⟨u1, u2, u3, u4, u5, u6, u7, u8⟩ := Blk.eight hBk
          go_simp
          refine hK.out _ _ ?_
          exact ⟨h_1021, h_0, h_1, h_2, h_3, h_4, h_5, fun _ => rfl, h_7, h_8, h_9, h_10, h_11, h_12, h_13, h_14, h_16, h_17, h_18, h_21, hBk, hP⟩
        · intro L s w9 hN hU hi hC hS K hK
          dsimp only at hK ⊢
          simp only [Act.put, List.setIfInBounds_toArray, List.set_cons_zero, List.set_cons_succ] at hK
          obtain ⟨h_1021, h_0, h_1, h_2, h_3, h_4, h_5, h_6, h_7, h_8, h_9, h_10, h_11, h_12, h_13, h_14, h_16, h_17, h_18, h_21, hBk, hP⟩ := hS
          refine ite_of rfl ?_
          go_simp
          refine hK.out _ _ ?_
          exact ⟨h_1021, h_0, h_1, h_2, h_3, h_4, h_5, h_6, fun _ => rfl, h_8, h_9, h_10, h_11, h_12, h_13, h_14, h_16, h_17, h_18, h_21, hBk, hP⟩
        · intro L s w9 hN hU hi hC hS K hK
          dsimp only at hK ⊢
          simp only [Act.put, List.setIfInBounds_toArray, List.set_cons_zero, List.set_cons_succ] at hK
          obtain ⟨h_1021, h_0, h_1, h_2, h_3, h_4, h_5, h_6, h_7, h_8, h_9, h_10, h_11, h_12, h_13, h_14, h_16, h_17, h_18, h_21, hBk, hP⟩ := hS
          refine ite_of rfl ?_
          have e_7 : s 7 = .pointer (some ⟨wr.heap.size, 3, none⟩) := h_7 (hN.out 7 rfl)
          simp only [e_7] at hK ⊢
          obtain ⟨u1, u2, u3, u4, u5, u6, u7, u8⟩ := Blk.eight hBk
          go_simp
          refine hK.out _ _ ?_
          exact ⟨h_1021, h_0, h_1, h_2, h_3, h_4, h_5, h_6, h_7, fun _ => rfl, h_9, h_10, h_11, h_12, h_13, h_14, h_16, h_17, h_18, h_21, hBk, hP⟩
        · intro L s w9 hN hU hi hC hS K hK
          dsimp only at hK ⊢
          simp only [Act.put, List.setIfInBounds_toArray, List.set_cons_zero, List.set_cons_succ] at hK
          obtain ⟨h_1021, h_0, h_1, h_2, h_3, h_4, h_5, h_6, h_7, h_8, h_9, h_10, h_11, h_12, h_13, h_14, h_16, h_17, h_18, h_21, hBk, hP⟩ := hS
          refine ite_of rfl ?_
          go_simp
          refine hK.out _ _ ?_
          exact ⟨h_1021, h_0, h_1, h_2, h_3, h_4, h_5, h_6, h_7, h_8, fun _ => rfl, h_10, h_11, h_12, h_13, h_14, h_16, h_17, h_18, h_21, hBk, hP⟩
        · intro L s w9 hN hU hi hC hS K hK
          dsimp only at hK ⊢
          simp only [Act.put, List.setIfInBounds_toArray, List.set_cons_zero, List.set_cons_succ] at hK
          obtain ⟨h_1021, h_0, h_1, h_2, h_3, h_4, h_5, h_6, h_7, h_8, h_9, h_10, h_11, h_12, h_13, h_14, h_16, h_17, h_18, h_21, hBk, hP⟩ := hS
          refine ite_of rfl ?_
          have e_9 : s 9 = .pointer (some ⟨wr.heap.size, 4, none⟩) := h_9 (hN.out 9 rfl)
          simp only [e_9] at hK ⊢
          obtain ⟨u1, u2, u3, u4, u5, u6, u7, u8⟩ := Blk.eight hBk
          go_simp
          refine hK.out _ _ ?_
          exact ⟨h_1021, h_0, h_1, h_2, h_3, h_4, h_5, h_6, h_7, h_8, h_9, fun _ => rfl, h_11, h_12, h_13, h_14, h_16, h_17, h_18, h_21, hBk, hP⟩
        · intro L s w9 hN hU hi hC hS K hK
          dsimp only at hK ⊢
          simp only [Act.put, List.setIfInBounds_toArray, List.set_cons_zero, List.set_cons_succ] at hK
          obtain ⟨h_1021, h_0, h_1, h_2, h_3, h_4, h_5, h_6, h_7, h_8, h_9, h_10, h_11, h_12, h_13, h_14, h_16, h_17, h_18, h_21, hBk, hP⟩ := hS
          refine ite_of rfl ?_
          go_simp
          refine hK.out _ _ ?_
          exact ⟨h_1021, h_0, h_1, h_2, h_3, h_4, h_5, h_6, h_7, h_8, h_9, h_10, fun _ => rfl, h_12, h_13, h_14, h_16, h_17, h_18, h_21, hBk, hP⟩
        · intro L s w9 hN hU hi hC hS K hK
          dsimp only at hK ⊢
          simp only [Act.put, List.setIfInBounds_toArray, List.set_cons_zero, List.set_cons_succ] at hK
          obtain ⟨h_1021, h_0, h_1, h_2, h_3, h_4, h_5, h_6, h_7, h_8, h_9, h_10, h_11, h_12, h_13, h_14, h_16, h_17, h_18, h_21, hBk, hP⟩ := hS
          refine ite_of rfl ?_
          have e_11 : s 11 = .pointer (some ⟨wr.heap.size, 5, none⟩) := h_11 (hN.out 11 rfl)
          simp only [e_11] at hK ⊢
          obtain ⟨u1, u2, u3, u4, u5, u6, u7, u8⟩ := Blk.eight hBk
          go_simp
          refine hK.out _ _ ?_
          exact ⟨h_1021, h_0, h_1, h_2, h_3, h_4, h_5, h_6, h_7, h_8, h_9, h_10, h_11, fun _ => rfl, h_13, h_14, h_16, h_17, h_18, h_21, hBk, hP⟩
        · intro L s w9 hN hU hi hC hS K hK
          dsimp only at hK ⊢
          simp only [Act.put, List.setIfInBounds_toArray, List.set_cons_zero, List.set_cons_succ] at hK
          obtain ⟨h_1021, h_0, h_1, h_2, h_3, h_4, h_5, h_6, h_7, h_8, h_9, h_10, h_11, h_12, h_13, h_14, h_16, h_17, h_18, h_21, hBk, hP⟩ := hS
          refine ite_of rfl ?_
          go_simp
          refine hK.out _ _ ?_
          exact ⟨h_1021, h_0, h_1, h_2, h_3, h_4, h_5, h_6, h_7, h_8, h_9, h_10, h_11, h_12, fun _ => rfl, h_14, h_16, h_17, h_18, h_21, hBk, hP⟩
        · intro L s w9 hN hU hi hC hS K hK
          dsimp only at hK ⊢
          simp only [Act.put, List.setIfInBounds_toArray, List.set_cons_zero, List.set_cons_succ] at hK
          obtain ⟨h_1021, h_0, h_1, h_2, h_3, h_4, h_5, h_6, h_7, h_8, h_9, h_10, h_11, h_12, h_13, h_14, h_16, h_17, h_18, h_21, hBk, hP⟩ := hS
          refine ite_of rfl ?_
          have e_13 : s 13 = .pointer (some ⟨wr.heap.size, 6, none⟩) := h_13 (hN.out 13 rfl)
          simp only [e_13] at hK ⊢
          obtain ⟨u1, u2, u3, u4, u5, u6, u7, u8⟩ := Blk.eight hBk
          go_simp
          refine hK.out _ _ ?_
          exact ⟨h_1021, h_0, h_1, h_2, h_3, h_4, h_5, h_6, h_7, h_8, h_9, h_10, h_11, h_12, h_13, fun _ => rfl, h_16, h_17, h_18, h_21, hBk, hP⟩
        · intro L s w9 hN hU hi hC hS K hK
          dsimp only at hK ⊢
          simp only [Act.put, List.setIfInBounds_toArray, List.set_cons_zero, List.set_cons_succ] at hK
          obtain ⟨h_1021, h_0, h_1, h_2, h_3, h_4, h_5, h_6, h_7, h_8, h_9, h_10, h_11, h_12, h_13, h_14, h_16, h_17, h_18, h_21, hBk, hP⟩ := hS
          refine ite_of rfl ?_
          have e_14 : s 14 = .slice A6 xv.length n6 := h_14 (hN.out 14 rfl)
          simp only [e_14] at hK ⊢
          have hq := hP.p0 hi.out
          have nb := hU.out 18 _ rfl rfl
          have nn := Shut.no hC 19 18 rfl rfl nb
          have na := Shut.no hC 20 19 rfl rfl nn
          go_simp
          go_at_call 27
          refine (HC.out _ hq).mono ?_
          rintro e9 w10 ⟨⟨S9, rfl, hR⟩, q⟩
          refine hK.out _ _ ?_
          exact ⟨h_1021, h_0, h_1, h_2, h_3, h_4, h_5, h_6, h_7, h_8, h_9, h_10, h_11, h_12, h_13, h_14, h_16, h_17, fun h => no_f (nb.symm.trans h), h_21, (hBk.below q (Nat.le_refl _)), ⟨fun h => no_t h, fun _ _ => ⟨below_trans hq q, hR⟩, fun h => no_f (nn.symm.trans h), fun h => no_f (na.symm.trans h)⟩⟩
        · intro L s w9 hN hU hi hC hS K hK
          dsimp only at hK ⊢
          simp only [Act.put, List.setIfInBounds_toArray, List.set_cons_zero, List.set_cons_succ] at hK
          obtain ⟨h_1021, h_0, h_1, h_2, h_3, h_4, h_5, h_6, h_7, h_8, h_9, h_10, h_11, h_12, h_13, h_14, h_16, h_17, h_18, h_21, hBk, hP⟩ := hS
          refine ite_of rfl ?_
          go_simp
          refine hK.out _ _ ?_
          exact ⟨h_1021, h_0, h_1, h_2, h_3, h_4, h_5, h_6, h_7, h_8, h_9, h_10, h_11, h_12, h_13, h_14, fun _ => rfl, h_17, h_18, h_21, hBk, hP⟩
        · intro L s w9 hN hU hi hC hS K hK
          dsimp only at hK ⊢
          simp only [Act.put, List.setIfInBounds_toArray, List.set_cons_zero, List.set_cons_succ] at hK
          obtain ⟨h_1021, h_0, h_1, h_2, h_3, h_4, h_5, h_6, h_7, h_8, h_9, h_10, h_11, h_12, h_13, h_14, h_16, h_17, h_18, h_21, hBk, hP⟩ := hS
          refine ite_of rfl ?_
          have e_16 : s 16 = .pointer (some ⟨wr.heap.size, 7, none⟩) := h_16 (hN.out 16 rfl)
          simp only [e_16] at hK ⊢
          obtain ⟨u1, u2, u3, u4, u5, u6, u7, u8⟩ := Blk.eight hBk
          go_simp
          refine hK.out _ _ ?_
          exact ⟨h_1021, h_0, h_1, h_2, h_3, h_4, h_5, h_6, h_7, h_8, h_9, h_10, h_11, h_12, h_13, h_14, h_16, fun _ => rfl, h_18, h_21, hBk, hP⟩
        · intro L s w9 hN hU hi hC hS K hK
          dsimp only at hK ⊢
          simp only [Act.put, List.setIfInBounds_toArray, List.set_cons_zero, List.set_cons_succ] at hK
          obtain ⟨h_1021, h_0, h_1, h_2, h_3, h_4, h_5, h_6, h_7, h_8, h_9, h_10, h_11, h_12, h_13, h_14, h_16, h_17, h_18, h_21, hBk, hP⟩ := hS
          refine ite_of rfl ?_
          have e_2 : s 2 = .int .i64 xk := h_2 (hN.out 2 rfl)
          simp only [e_2] at hK ⊢
          have e_4 : s 4 = .string ⟨xn.toArray⟩ := h_4 (hN.out 4 rfl)
          simp only [e_4] at hK ⊢
          have e_6 : s 6 = .bool xb := h_6 (hN.out 6 rfl)
          simp only [e_6] at hK ⊢
          have e_8 : s 8 = .slice A3 xd.length n3 := h_8 (hN.out 8 rfl)
          simp only [e_8] at hK ⊢
          have e_10 : s 10 = .int .i64 xz := h_10 (hN.out 10 rfl)
          simp only [e_10] at hK ⊢
          have e_12 : s 12 = .bool xo := h_12 (hN.out 12 rfl)
          simp only [e_12] at hK ⊢
          have e_17 : s 17 = .int .i64 xa := h_17 (hN.out 17 rfl)
          simp only [e_17] at hK ⊢
          obtain ⟨hq, hR⟩ := hP.p1 (hN.out 15 rfl) (hU.out 19 _ rfl rfl)
          obtain ⟨SA, Sc, eS⟩ := hsh hR
          simp only [eS] at hK ⊢
          go_simp
          refine hK.out _ _ ?_
          exact ⟨h_1021, h_0, h_1, h_2, h_3, h_4, h_5, h_6, h_7, h_8, h_9, h_10, h_11, h_12, h_13, h_14, h_16, h_17, fun _ => congrArg (fun S => Value.agg (((fun S => #[.int .i64 xk, .string ⟨xn.toArray⟩, .bool xb, .slice A3 xd.length n3, .int .i64 xz, .bool xo, S, .int .i64 xa]) : Value → Array Value) S)) eS.symm, h_21, hBk, hP⟩
        · intro L s w9 hN hU hi hC hS K hK
          dsimp only at hK ⊢
          simp only [Act.put, List.setIfInBounds_toArray, List.set_cons_zero, List.set_cons_succ] at hK
          obtain ⟨h_1021, h_0, h_1, h_2, h_3, h_4, h_5, h_6, h_7, h_8, h_9, h_10, h_11, h_12, h_13, h_14, h_16, h_17, h_18, h_21, hBk, hP⟩ := hS
          refine ite_of rfl ?_
          have e_b := h_18 (hN.out 18 rfl)
          have lc : L 15 = true := hC.out 18 _ rfl (hN.out 18 rfl) 15 rfl
          obtain ⟨hq, hR⟩ := hP.p1 lc hi.out
          obtain ⟨SA, Sc, eS⟩ := hsh hR
          have na := hU.out 20 _ rfl rfl
          have e_b2 := e_b.trans (congrArg (fun S => Value.agg (((fun S => #[.int .i64 xk, .string ⟨xn.toArray⟩, .bool xb, .slice A3 xd.length n3, .int .i64 xz, .bool xo, S, .int .i64 xa]) : Value → Array Value) S)) eS)
          dsimp only at e_b2
          simp only [e_b2, eS] at hK ⊢
          go_simp
          refine hK.out _ _ ?_
          exact ⟨h_1021, h_0, h_1, h_2, h_3, h_4, h_5, h_6, h_7, h_8, h_9, h_10, h_11, h_12, h_13, h_14, h_16, h_17, h_18, h_21, (hBk.alloc _), ⟨fun h => no_f (Eq.trans (Eq.symm h) lc), fun _ h => no_t h, fun _ _ => ⟨w9, hq, hR, congrArg (fun S => w9.alloc (.cells (((fun S => #[.int .i64 xk, .string ⟨xn.toArray⟩, .bool xb, .slice A3 xd.length n3, .int .i64 xz, .bool xo, S, .int .i64 xa]) : Value → Array Value) S) _)) eS.symm, rfl⟩, fun h => no_f (na.symm.trans h)⟩⟩
        · intro L s w9 hN hU hi hC hS K hK
          dsimp only at hK ⊢
          simp only [Act.put, List.setIfInBounds_toArray, List.set_cons_zero, List.set_cons_succ] at hK
          obtain ⟨h_1021, h_0, h_1, h_2, h_3, h_4, h_5, h_6, h_7, h_8, h_9, h_10, h_11, h_12, h_13, h_14, h_16, h_17, h_18, h_21, hBk, hP⟩ := hS
          refine ite_of rfl ?_
          have n_l := hU.out 21 _ rfl rfl
          have e_x : s 0 = .slice A9 m9 c9 := h_0 (hN.out 0 rfl)
          have lb : L 18 = true := hC.out 19 _ rfl (hN.out 19 rfl) 18 rfl
          have lc : L 15 = true := hC.out 18 _ rfl lb 15 rfl
          have ln : L 19 = true := hN.out 19 rfl
          obtain ⟨w3, hq, hR, rfl, en⟩ := hP.p2 ln hi.out
          obtain ⟨SA, Sc, eS⟩ := hsh hR
          simp only [e_x, en] at hK ⊢
          refine Lay.wp_app1 (layIat w0 F 28 50) _ _ w3 (w.heap.size) (.slice A9 m9 c9) ((l.take j).map It.flat) (It.flat ⟨xk, xn, xb, xd, xz, xo, xv, xa⟩) (((fun S => #[.int .i64 xk, .string ⟨xn.toArray⟩, .bool xb, .slice A3 xd.length n3, .int .i64 xz, .bool xo, S, .int .i64 xa]) : Value → Array Value) (s 15)) rfl Tryz.underlying22 info_ritem rfl (Nat.zero_lt_succ _) (by decide) (Lay.own_below ho2 hq) (Nat.le_trans hbase hq.size) hlen rfl (by rw [eS]; rfl) (HN.out w3 (s 15) hq hR) rfl rfl rfl ?_
          intro v4 w4 ho4 hg4 hb4 _
          refine hK.out _ _ ?_
          exact ⟨h_1021, h_0, h_1, h_2, h_3, h_4, h_5, h_6, h_7, h_8, h_9, h_10, h_11, h_12, h_13, h_14, h_16, h_17, h_18, fun h => no_f (n_l.symm.trans h), ((hg4.block _ (Nat.lt_of_lt_of_le (k5).lt hq.size) hne).trans ((k5).below hq (Nat.le_refl _))), ⟨fun h => no_f (Eq.trans (Eq.symm h) lc), fun _ h => no_f (Eq.trans (Eq.symm h) ln), fun _ h => no_t h, fun _ => ⟨ho4, (hq.mono hbase).trans hb4⟩⟩⟩
        · intro L s w9 hN hU hi hC hS K hK
          dsimp only at hK ⊢
          simp only [Act.put, List.setIfInBounds_toArray, List.set_cons_zero, List.set_cons_succ] at hK
          obtain ⟨h_1021, h_0, h_1, h_2, h_3, h_4, h_5, h_6, h_7, h_8, h_9, h_10, h_11, h_12, h_13, h_14, h_16, h_17, h_18, h_21, hBk, hP⟩ := hS
          refine ite_of rfl ?_
          go_simp
          refine hK.out _ _ ?_
          exact ⟨fun h => no_t h, h_0, h_1, h_2, h_3, h_4, h_5, h_6, h_7, h_8, h_9, h_10, h_11, h_12, h_13, h_14, h_16, h_17, h_18, fun _ => rfl, hBk, hP⟩
      intro L s w9 hall hS
      obtain ⟨h_1021, h_0, h_1, h_2, h_3, h_4, h_5, h_6, h_7, h_8, h_9, h_10, h_11, h_12, h_13, h_14, h_16, h_17, h_18, h_21, hBk, hP⟩ := hS
      obtain ⟨ho9, hb9⟩ := hP.p3 (hall 20 (by decide))
      have e9_21 := h_21 (hall 21 (by decide))
      clear h_1021 h_0 h_1 h_2 h_3 h_4 h_5 h_6 h_7 h_8 h_9 h_10 h_11 h_12 h_13 h_14 h_16 h_17 h_18 h_21
      rw [← e9_21] at ho9
      have hb7 := hb2.trans hb9
      have hb8 := hb3.trans (hb9.mono hw0.size)
      clear e9_21 hP hBk hall
      go_wp2_with fail
      go_roundg (l.length - (j + 1))
      case measure => omega
      case rel => exact ⟨j + 1, rfl, by omega, by simp, by rw [HS.out]; exact ho9, hb7, hb8⟩
    · have d1 : decide ((j : Int) < (l.length : Int)) = false := decide_eq_false (by omega)
      have e1 : l.take j = l := List.take_of_length_le (by omega)
      rw [e1] at ho
      go_wp2
      go_ret
      exact ⟨⟨_, rfl, ho⟩, hb⟩
end Go.Proofs.YtpfhgkielakmoaaGreatDoor

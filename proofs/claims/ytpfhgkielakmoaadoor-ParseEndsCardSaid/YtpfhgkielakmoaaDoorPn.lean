/-
  The law's turns of expressions and items.
-/
import Derived.Test.YtpfhgkielakmoaaDoorPf
import Derived.Test.YtpfhgkielakmoaaDoorDab
import Derived.Test.YtpfhgkielakmoaaDoorTl
set_option linter.unusedSimpArgs false
set_option linter.unusedVariables false
namespace Go.Proofs.YtpfhgkielakmoaaDoor
open Go.RowKit Num

def Ex0.flat (y : Ex0) : Ex0 := ⟨y.k, y.n, y.s, if y.m = 0 then 0 else 1⟩
def Ex.flat (x : Ex) : Ex := ⟨x.k, x.n, x.s, x.l.map Ex0.flat⟩
def It.flat (x : It) : It := ⟨x.k, x.name, x.bool, x.dom, x.size, x.out, x.vals.map Ex.flat, x.ask⟩
/-- The cells of a row of expressions within a list. -/
theorem row_e0 {ty : TypeId} {F : Nat → Prop} {w : World} {A : Option Addr} {n c : Nat} {l : List Ex0} (h : (layE0 ty).row.P F w (.slice A n c) l) (hn : l ≠ []) :
    ∃ b o, A = some ⟨b, o, none⟩ ∧ b < w.heap.size ∧ ∀ j (hj : j < l.length), w.cell? ⟨b, o + j * 4, none⟩ = some (.int .i64 l[j].k) ∧ w.cell? ⟨b, o + j * 4 + 1, none⟩ = some (.int .i64 l[j].n) ∧ w.cell? ⟨b, o + j * 4 + 2, none⟩ = some (.string ⟨l[j].s.toArray⟩) ∧ ∃ A3 c3, w.cell? ⟨b, o + j * 4 + 3, none⟩ = some (.slice A3 l[j].m c3) := by
  obtain ⟨A', c', h1, h2, h3, h4⟩ := h
  obtain ⟨b, o, h5, h6, h7, h8⟩ := h4 hn
  injection h1 with e1 _ _
  subst e1
  refine ⟨b, o, h5, h7, fun j hj => ?_⟩
  obtain ⟨u0, k0, p0⟩ := h8 j hj 0 (by show 0 < 4; omega)
  obtain ⟨u1, k1, p1⟩ := h8 j hj 1 (by show 1 < 4; omega)
  obtain ⟨u2, k2, p2⟩ := h8 j hj 2 (by show 2 < 4; omega)
  obtain ⟨u3, k3, p3⟩ := h8 j hj 3 (by show 3 < 4; omega)
  have p0' : u0 = .int .i64 l[j].k := p0
  have p1' : u1 = .int .i64 l[j].n := p1
  have p2' : u2 = .string ⟨l[j].s.toArray⟩ := p2
  obtain ⟨A3, c3, p3'⟩ := p3
  subst p0' p1' p2' p3'
  exact ⟨k0, k1, k2, A3, c3, k3⟩
theorem row_ex {ty : TypeId} {F : Nat → Prop} {w : World} {A : Option Addr} {n c : Nat} {l : List Ex} (h : (layE ty).row.P F w (.slice A n c) l) (hn : l ≠ []) :
    ∃ b o, A = some ⟨b, o, none⟩ ∧ b < w.heap.size ∧ ∀ j (hj : j < l.length), w.cell? ⟨b, o + j * 4, none⟩ = some (.int .i64 l[j].k) ∧ w.cell? ⟨b, o + j * 4 + 1, none⟩ = some (.int .i64 l[j].n) ∧ w.cell? ⟨b, o + j * 4 + 2, none⟩ = some (.string ⟨l[j].s.toArray⟩) ∧ ∃ A3 c3, w.cell? ⟨b, o + j * 4 + 3, none⟩ = some (.slice A3 l[j].l.length c3) ∧ (layE0 ty).row.P F w (.slice A3 l[j].l.length c3) l[j].l := by
  obtain ⟨A', c', h1, h2, h3, h4⟩ := h
  obtain ⟨b, o, h5, h6, h7, h8⟩ := h4 hn
  injection h1 with e1 _ _
  subst e1
  refine ⟨b, o, h5, h7, fun j hj => ?_⟩
  obtain ⟨u0, k0, p0⟩ := h8 j hj 0 (by show 0 < 4; omega)
  obtain ⟨u1, k1, p1⟩ := h8 j hj 1 (by show 1 < 4; omega)
  obtain ⟨u2, k2, p2⟩ := h8 j hj 2 (by show 2 < 4; omega)
  obtain ⟨u3, k3, p3⟩ := h8 j hj 3 (by show 3 < 4; omega)
  have p0' : u0 = .int .i64 l[j].k := p0
  have p1' : u1 = .int .i64 l[j].n := p1
  have p2' : u2 = .string ⟨l[j].s.toArray⟩ := p2
  have p3' : (layE0 ty).row.P F w u3 l[j].l := p3
  obtain ⟨A3, c3, e3⟩ := Lay.row_len p3'
  subst p0' p1' p2' e3
  exact ⟨k0, k1, k2, A3, c3, k3, p3'⟩
theorem row_it {ty te : TypeId} {F : Nat → Prop} {w : World} {A : Option Addr} {n c : Nat} {l : List It} (h : (layI ty te).row.P F w (.slice A n c) l) (hn : l ≠ []) :
    ∃ b o, A = some ⟨b, o, none⟩ ∧ b < w.heap.size ∧ ∀ j (hj : j < l.length), w.cell? ⟨b, o + j * 8, none⟩ = some (.int .i64 l[j].k) ∧ w.cell? ⟨b, o + j * 8 + 1, none⟩ = some (.string ⟨l[j].name.toArray⟩) ∧ w.cell? ⟨b, o + j * 8 + 2, none⟩ = some (.bool l[j].bool) ∧ w.cell? ⟨b, o + j * 8 + 4, none⟩ = some (.int .i64 l[j].size) ∧ w.cell? ⟨b, o + j * 8 + 5, none⟩ = some (.bool l[j].out) ∧ w.cell? ⟨b, o + j * 8 + 7, none⟩ = some (.int .i64 l[j].ask) ∧
      (∃ A3 c3, w.cell? ⟨b, o + j * 8 + 3, none⟩ = some (.slice A3 l[j].dom.length c3) ∧ layR.row.P F w (.slice A3 l[j].dom.length c3) l[j].dom) ∧ (∃ A6 c6, w.cell? ⟨b, o + j * 8 + 6, none⟩ = some (.slice A6 l[j].vals.length c6) ∧ (layE te).row.P F w (.slice A6 l[j].vals.length c6) l[j].vals) := by
  obtain ⟨A', c', h1, h2, h3, h4⟩ := h
  obtain ⟨b, o, h5, h6, h7, h8⟩ := h4 hn
  injection h1 with e1 _ _
  subst e1
  refine ⟨b, o, h5, h7, fun j hj => ?_⟩
  obtain ⟨u0, k0, p0⟩ := h8 j hj 0 (by show 0 < 8; omega)
  obtain ⟨u1, k1, p1⟩ := h8 j hj 1 (by show 1 < 8; omega)
  obtain ⟨u2, k2, p2⟩ := h8 j hj 2 (by show 2 < 8; omega)
  obtain ⟨u3, k3, p3⟩ := h8 j hj 3 (by show 3 < 8; omega)
  obtain ⟨u4, k4, p4⟩ := h8 j hj 4 (by show 4 < 8; omega)
  obtain ⟨u5, k5, p5⟩ := h8 j hj 5 (by show 5 < 8; omega)
  obtain ⟨u6, k6, p6⟩ := h8 j hj 6 (by show 6 < 8; omega)
  obtain ⟨u7, k7, p7⟩ := h8 j hj 7 (by show 7 < 8; omega)
  have p0' : u0 = .int .i64 l[j].k := p0
  have p1' : u1 = .string ⟨l[j].name.toArray⟩ := p1
  have p2' : u2 = .bool l[j].bool := p2
  have p3' : layR.row.P F w u3 l[j].dom := p3
  have p4' : u4 = .int .i64 l[j].size := p4
  have p5' : u5 = .bool l[j].out := p5
  have p6' : (layE te).row.P F w u6 l[j].vals := p6
  have p7' : u7 = .int .i64 l[j].ask := p7
  obtain ⟨A3, c3, e3⟩ := Lay.row_len p3'
  obtain ⟨A6, c6, e6⟩ := Lay.row_len p6'
  subst p0' p1' p2' e3 p4' p5' e6 p7'
  exact ⟨k0, k1, k2, k4, k5, k7, ⟨A3, c3, k3, p3'⟩, A6, c6, k6, p6'⟩
theorem lt_ne {α : Type} {l : List α} {j : Nat} (h : j < l.length) : l ≠ [] := by
  rintro rfl
  exact absurd h (Nat.not_lt_zero _)
/-- What an element holds, once a block that it looks into not was made. -/
theorem e0_new {ty : TypeId} {y : Ex0} {A : Option Addr} {c : Nat} {F : Nat → Prop} {w : World} : ∀ k, k < (layE0 ty).sz → ∃ u, (#[.int .i64 y.k, .int .i64 y.n, .string ⟨y.s.toArray⟩, .slice A y.m c] : Array Value).toList[k]? = some u ∧ ((layE0 ty).C k).P F w u y := fun k hk => by
  have hk4 : k < 4 := hk
  match k, hk4 with
  | 0, _ => exact ⟨_, rfl, rfl⟩
  | 1, _ => exact ⟨_, rfl, rfl⟩
  | 2, _ => exact ⟨_, rfl, rfl⟩
  | 3, _ => exact ⟨_, rfl, A, c, rfl⟩
theorem ex_new {ty : TypeId} {x : Ex} {S : Value} {F : Nat → Prop} {w : World} (h : (layE0 ty).row.P F w S x.l) : ∀ k, k < (layE ty).sz → ∃ u, (#[.int .i64 x.k, .int .i64 x.n, .string ⟨x.s.toArray⟩, S] : Array Value).toList[k]? = some u ∧ ((layE ty).C k).P F w u x := fun k hk => by
  have hk4 : k < 4 := hk
  match k, hk4 with
  | 0, _ => exact ⟨_, rfl, rfl⟩
  | 1, _ => exact ⟨_, rfl, rfl⟩
  | 2, _ => exact ⟨_, rfl, rfl⟩
  | 3, _ => exact ⟨_, rfl, h⟩
theorem info_rexs : (Tryd.prog.info? 79).map (fun i => (i.zero, i.size, i.bytes)) = some (some (.agg #[.int .i64 0, .int .i64 0, .string ⟨#[]⟩, .slice none 0 0]), 4, 56) := by kernel_rfl
set_option maxRecDepth 100000 in
set_option maxHeartbeats 8000000 in
theorem ours_exprs {F : Nat → Prop} (A : Option Addr) (c : Nat) (l : List Ex) (w : World) (h : (layE 81).row.P F w (.slice A l.length c) l) (hn : l.length ≤ 10000) (hm : ∀ x ∈ l, x.l.length ≤ 10000) :
    Calls Tryd.prog 19 #[.slice A l.length c] w fun e w' => (∃ v, e = .returned v ∧ (layE 79).own w.heap.size w' v (l.map Ex.flat)) ∧ Below w.heap.size w w' := by
  have HM := Lib.hid hm
  clear hm
  go_enter Tryd.func19, Tryd.ntmps19
  go_wp2_with fail
  go_loopg [3, 12] l.length (fun k v a wr => ∃ j, k = l.length - j ∧ j ≤ l.length ∧ a = .int .i64 (j : Nat) ∧ (layE 79).own w.heap.size wr v ((l.take j).map Ex.flat) ∧ Below w.heap.size w wr)
  case atStart => exact ⟨0, rfl, Nat.zero_le _, rfl, Lay.own_nil _ _ _, Below.refl _ _⟩
  case round =>
    obtain ⟨j, hk, hj, rfl, ho, hb⟩ := hrel
    by_cases hlt : j < l.length
    · have d1 : decide ((j : Int) < (l.length : Int)) = true := decide_eq_true (by omega)
      have hw := Dt.below _ h hb (Nat.le_refl _)
      obtain ⟨b, o, hA, hbl, hc⟩ := row_ex hw (lt_ne hlt)
      obtain ⟨c1, c2, c3, A3, n3, c4, h3⟩ := hc j hlt
      have hs : (l.take (j + 1)).map Ex.flat = (l.take j).map Ex.flat ++ [l[j].flat] := by rw [take_snoc hlt, List.map_append]; rfl
      have HS := Lib.hid hs
      have hm1 := HM.out l[j] (List.getElem_mem hlt)
      have hlen : ((l.take j).map Ex.flat).length ≤ 1000000 := by rw [List.length_map, List.length_take]; omega
      have hb2 := below_trans hb (below_alloc1 wr (.cells #[.int .i64 l[j].k, .int .i64 l[j].n, .string ⟨l[j].s.toArray⟩, .slice A3 l[j].l.length n3] 81))
      have h32 := Dt.below _ h3 (below_alloc1 wr (.cells #[.int .i64 l[j].k, .int .i64 l[j].n, .string ⟨l[j].s.toArray⟩, .slice A3 l[j].l.length n3] 81)) (Nat.le_refl _)
      have ho2 := Lay.own_below ho (below_alloc1 wr (.cells #[.int .i64 l[j].k, .int .i64 l[j].n, .string ⟨l[j].s.toArray⟩, .slice A3 l[j].l.length n3] 81))
      have k5 : Blk (wr.alloc (.cells #[.int .i64 l[j].k, .int .i64 l[j].n, .string ⟨l[j].s.toArray⟩, .slice A3 l[j].l.length n3] 81)) wr.heap.size 81 #[.int .i64 l[j].k, .int .i64 l[j].n, .string ⟨l[j].s.toArray⟩, .slice A3 l[j].l.length n3] := Blk.new ..
      obtain ⟨f1, f2, f3, f4⟩ := Blk.four (a := .int .i64 l[j].k) (b := .int .i64 l[j].n) (c := .string ⟨l[j].s.toArray⟩) (d := .slice A3 l[j].l.length n3) k5
      clear hs hw hc h3
      subst hA
      go_wp2_with fail
      have hz5 : wr.heap.size < (wr.alloc (.cells #[.int .i64 l[j].k, .int .i64 l[j].n, .string ⟨l[j].s.toArray⟩, .slice A3 l[j].l.length n3] 81)).heap.size := by simp
      generalize wr.alloc (.cells #[.int .i64 l[j].k, .int .i64 l[j].n, .string ⟨l[j].s.toArray⟩, .slice A3 l[j].l.length n3] 81) = w5 at *
      go_loopg [6, 19] l[j].l.length (fun k v a w6 => ∃ i, k = l[j].l.length - i ∧ i ≤ l[j].l.length ∧ a = .int .i64 (i : Nat) ∧ (layE0 79).own w5.heap.size w6 v ((l[j].l.take i).map Ex0.flat) ∧ Below w5.heap.size w5 w6)
      case atStart => exact ⟨0, rfl, Nat.zero_le _, rfl, Lay.own_nil _ _ _, Below.refl _ _⟩
      case round =>
        obtain ⟨i, hk2, hi, rfl, ho3, hb3⟩ := hrel
        by_cases hlt2 : i < l[j].l.length
        · have d2 : decide ((i : Int) < (l[j].l.length : Int)) = true := decide_eq_true (by omega)
          obtain ⟨b2, o2, hA2, hbl2, hc2⟩ := row_e0 (Dt.below _ h32 hb3 (Nat.le_refl _)) (lt_ne hlt2)
          obtain ⟨g1, g2, g3, A4, n4, g4⟩ := hc2 i hlt2
          have hs2 : (l[j].l.take (i + 1)).map Ex0.flat = (l[j].l.take i).map Ex0.flat ++ [l[j].l[i].flat] := by rw [take_snoc hlt2, List.map_append]; rfl
          have HS2 := Lib.hid hs2
          have hlen2 : ((l[j].l.take i).map Ex0.flat).length ≤ 1000000 := by rw [List.length_map, List.length_take]; omega
          clear hs2 hc2
          generalize l[j].l[i] = y at *
          obtain ⟨yk, yn, ys, ym⟩ := y
          have hp2 := below_trans (below_alloc1 wr (.cells #[.int .i64 yk, .int .i64 yn, .string ⟨ys.toArray⟩, .slice A4 ym n4] 81)) (below_alloc1 _ (.cells #[.int .i64 yk, .int .i64 yn, .string ⟨ys.toArray⟩, .slice none 0 0] 79))
          have kb : Blk ((wr.alloc (.cells #[.int .i64 yk, .int .i64 yn, .string ⟨ys.toArray⟩, .slice A4 ym n4] 81)).alloc (.cells #[.int .i64 yk, .int .i64 yn, .string ⟨ys.toArray⟩, .slice none 0 0] 79)) (wr.heap.size + 1) 79 #[.int .i64 yk, .int .i64 yn, .string ⟨ys.toArray⟩, .slice none 0 0] := Blk.at_ (by simp)
          subst hA2
          obtain ⟨A7, n7, hv7⟩ := Lay.own_len ho3
          subst hv7
          cases ym with
          | zero =>
            have ho4 := Lay.own_below ho3 hp2
            have hs4 : w5.heap.size ≤ _ := (hb3.trans (hp2.mono hb3.size)).size
            have hb4 := hb3.trans (hp2.mono hb3.size)
            clear kb hp2
            go_wp2_with (at_builtin; refine Lay.wp_app (layE0 79) _ _ ((wr.alloc (.cells #[.int .i64 yk, .int .i64 yn, .string ⟨ys.toArray⟩, .slice A4 0 n4] 81)).alloc (.cells #[.int .i64 yk, .int .i64 yn, .string ⟨ys.toArray⟩, .slice none 0 0] 79)) w5.heap.size _ _ ⟨yk, yn, ys, 0⟩ #[.int .i64 yk, .int .i64 yn, .string ⟨ys.toArray⟩, .slice none 0 0] (by first | rfl | simp) Tryd.underlying58 info_rexs rfl (by decide) (by decide) ho4 hs4 hlen2 rfl rfl (e0_new (y := ⟨yk, yn, ys, 0⟩) (A := none) (c := 0)) rfl rfl rfl rfl ?_; intro v7 w7 ho7 hg7 hb7 _)
            go_roundg (l[j].l.length - (i + 1))
            case measure => omega
            case rel => exact ⟨i + 1, rfl, by omega, by simp, by rw [HS2.out]; exact ho7, hb4.trans hb7⟩
          | succ m =>
            have d3 : decide ((0 : Int) < ((m : Int) + 1)) = true := decide_eq_true (by omega)
            have hp3 := below_trans (below_trans (below_alloc1 wr (.cells #[.int .i64 yk, .int .i64 yn, .string ⟨ys.toArray⟩, .slice A4 (m + 1) n4] 81)) (below_alloc1 _ (.cells #[.int .i64 yk, .int .i64 yn, .string ⟨ys.toArray⟩, .slice (some ⟨wr.heap.size + 1 + 1, 0, none⟩) 1 1] 79))) (below_alloc1 _ (.cells #[.int .i64 0, .int .i64 0, .string ⟨#[]⟩, .slice none 0 0] 79))
            have ho4 := Lay.own_below ho3 hp3
            have hb4 := hb3.trans (hp3.mono hb3.size)
            have hs4 := hb4.size
            clear kb hp2 hp3
            go_wp2_with (at_builtin; refine Lay.wp_app (layE0 79) _ _ (((wr.alloc (.cells #[.int .i64 yk, .int .i64 yn, .string ⟨ys.toArray⟩, .slice A4 (m + 1) n4] 81)).alloc (.cells #[.int .i64 yk, .int .i64 yn, .string ⟨ys.toArray⟩, .slice (some ⟨wr.heap.size + 1 + 1, 0, none⟩) 1 1] 79)).alloc (.cells #[.int .i64 0, .int .i64 0, .string ⟨#[]⟩, .slice none 0 0] 79)) w5.heap.size _ _ ⟨yk, yn, ys, 1⟩ #[.int .i64 yk, .int .i64 yn, .string ⟨ys.toArray⟩, .slice (some ⟨wr.heap.size + 1 + 1, 0, none⟩) 1 1] (by first | rfl | simp) Tryd.underlying58 info_rexs rfl (by decide) (by decide) ho4 hs4 hlen2 rfl rfl (e0_new (y := ⟨yk, yn, ys, 1⟩) (A := some ⟨wr.heap.size + 1 + 1, 0, none⟩) (c := 1)) rfl rfl rfl rfl ?_; intro v7 w7 ho7 hg7 hb7 _)
            go_roundg (l[j].l.length - (i + 1))
            case measure => omega
            case rel => exact ⟨i + 1, rfl, by omega, by simp, by rw [HS2.out]; exact ho7, hb4.trans hb7⟩
        · have d2 : decide ((i : Int) < (l[j].l.length : Int)) = false := decide_eq_false (by omega)
          have e2 : l[j].l.take i = l[j].l := List.take_of_length_le (by omega)
          rw [e2] at ho3
          obtain ⟨A6, n6, hv6⟩ := Lay.own_len ho3
          rw [List.length_map] at hv6
          have ho6 := Lay.own_below ho2 (hb3.mono (Nat.le_refl _))
          obtain ⟨m1, m2, m3, m4⟩ := Blk.four (a := .int .i64 l[j].k) (b := .int .i64 l[j].n) (c := .string ⟨l[j].s.toArray⟩) (d := .slice A3 l[j].l.length n3) (k5.below hb3 (Nat.le_refl _))
          have hw5 := hb2.size
          have hrow := (layE0 79).row.mono (F' := inF w.heap.size wr u3) (fun b hb => ⟨Nat.le_trans hw5 hb.1, hb.2, fun e => by have := (Lay.own_lt ho2 b e).2; have := hb.1; omega⟩) (Lay.own_row ho3)
          subst hv6
          have hnew := ex_new (ty := 79) (x := l[j].flat) hrow
          have HN := Lib.hid hnew
          have hs6 := Nat.le_trans hw5 hb3.size
          have hb6 := hb2.trans (hb3.mono hw5)
          clear e2 hnew hrow
          go_wp2_with (at_builtin; refine Lay.wp_app (layE 79) _ _ wr w.heap.size _ _ l[j].flat #[.int .i64 l[j].k, .int .i64 l[j].n, .string ⟨l[j].s.toArray⟩, .slice A6 l[j].l.length n6] (by first | rfl | simp) Tryd.underlying58 info_rexs rfl (by decide) (by decide) ho6 hs6 hlen rfl rfl HN.out rfl rfl rfl rfl ?_; intro v7 w7 ho7 hg7 hb7 _)
          go_roundg (l.length - (j + 1))
          case measure => omega
          case rel => exact ⟨j + 1, rfl, by omega, by simp, by rw [HS.out]; exact ho7, hb6.trans hb7⟩
    · have d1 : decide ((j : Int) < (l.length : Int)) = false := decide_eq_false (by omega)
      have e1 : l.take j = l := List.take_of_length_le (by omega)
      rw [e1] at ho
      go_wp2
      go_ret
      exact ⟨⟨_, rfl, ho⟩, hb⟩
end Go.Proofs.YtpfhgkielakmoaaDoor

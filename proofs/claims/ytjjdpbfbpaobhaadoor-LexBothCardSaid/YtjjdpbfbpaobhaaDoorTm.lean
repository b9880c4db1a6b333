/-
  The document's Same.
-/
import Derived.Test.YtjjdpbfbpaobhaaDoorTl
set_option linter.unusedSimpArgs false
set_option linter.unusedVariables false
namespace Go.Proofs.YtjjdpbfbpaobhaaDoor
open Go.RowKit Num

/-- Two tokens are one, but for where they stand if that is not asked. -/
def eqT (p : Bool) (a b : Tok) : Prop := a.k = b.k ∧ a.t = b.t ∧ a.v = b.v ∧ (p = true → a.at_ = b.at_)
set_option maxRecDepth 100000 in
set_option maxHeartbeats 4000000 in
theorem rsame_any (A B : Option Addr) (c d : Nat) (la lb : List Tok) (p : Bool) (w : World) (ha : RdT w A c la) (hb : RdT w B d lb) (hn : la.length ≤ 10000) (hl : la.length = lb.length)
    (he : ∀ j (h1 : j < la.length) (h2 : j < lb.length), eqT p la[j] lb[j]) :
    Calls Tryd.prog 10 #[.slice A la.length c, .slice B lb.length d, .bool p] w fun e w' => e = .returned (.bool true) ∧ Below w.heap.size w w' := by
  have HE := Lib.hid he
  have HL := Lib.hid hl
  have d0 : ((la.length : Int) != (lb.length : Int)) = false := by rw [hl]; simp
  clear he hl
  go_enter Tryd.func10, Tryd.ntmps10
  go_wp2_with fail
  go_loopg [7] la.length (fun k a wr => ∃ j, k = la.length - j ∧ j ≤ la.length ∧ a = .int .i64 (j : Nat) ∧ Below w.heap.size w wr)
  case atStart => exact ⟨0, rfl, Nat.zero_le _, rfl, Below.refl _ _⟩
  case round =>
    obtain ⟨j, hk, hj, rfl, hbl⟩ := hrel
    by_cases hlt : j < la.length
    · have hlt2 : j < lb.length := by have := HL.out; omega
      have d1 : decide ((j : Int) < (la.length : Int)) = true := decide_eq_true (by omega)
      obtain ⟨q1, q2, q3, q4⟩ := HE.out j hlt hlt2
      obtain ⟨b, o, hA, hb1, hc⟩ := (ha.below hbl (Nat.le_refl _)).at_ (by intro e; rw [e] at hlt; simp at hlt)
      obtain ⟨b', o', hB, hb2, hc'⟩ := (hb.below hbl (Nat.le_refl _)).at_ (by intro e; rw [e] at hlt2; simp at hlt2)
      obtain ⟨c1, c2, c3, c4⟩ := hc j hlt
      obtain ⟨e1, e2, e3, e4⟩ := hc' j hlt2
      clear hc hc'
      subst hA hB
      generalize la[j].k = tk at *
      generalize la[j].t = tt at *
      generalize la[j].v = tv at *
      generalize la[j].at_ = ta at *
      generalize lb[j].at_ = tb at *
      subst q1 q2 q3
      have Q4 := Lib.hid q4
      clear q4
      go_upto_region 6 with fail
      go_region
      · have kx : Blk (((wr.alloc (.cells #[.int .i64 lb[j].k, .string ⟨lb[j].t.toArray⟩, .int .i64 lb[j].v, .int .i64 ta] 34)).alloc (.cells #[.int .i64 lb[j].k, .string ⟨lb[j].t.toArray⟩, .int .i64 lb[j].v, .int .i64 tb] 34)).drew) wr.heap.size 34 #[.int .i64 lb[j].k, .string ⟨lb[j].t.toArray⟩, .int .i64 lb[j].v, .int .i64 ta] := ((Blk.new wr 34 _).alloc _).drew
        have ky : Blk (((wr.alloc (.cells #[.int .i64 lb[j].k, .string ⟨lb[j].t.toArray⟩, .int .i64 lb[j].v, .int .i64 ta] 34)).alloc (.cells #[.int .i64 lb[j].k, .string ⟨lb[j].t.toArray⟩, .int .i64 lb[j].v, .int .i64 tb] 34)).drew) (wr.heap.size + 1) 34 #[.int .i64 lb[j].k, .string ⟨lb[j].t.toArray⟩, .int .i64 lb[j].v, .int .i64 tb] := (Blk.at_ (by simp)).drew
        have hb4 : Below w.heap.size w (((wr.alloc (.cells #[.int .i64 lb[j].k, .string ⟨lb[j].t.toArray⟩, .int .i64 lb[j].v, .int .i64 ta] 34)).alloc (.cells #[.int .i64 lb[j].k, .string ⟨lb[j].t.toArray⟩, .int .i64 lb[j].v, .int .i64 tb] 34)).drew) := (below_trans (below_trans hbl (below_alloc1 _ _)) (below_alloc1 _ _)).trans ((Read.refl _).drew.below _)
        generalize ((wr.alloc (.cells #[.int .i64 lb[j].k, .string ⟨lb[j].t.toArray⟩, .int .i64 lb[j].v, .int .i64 ta] 34)).alloc (.cells #[.int .i64 lb[j].k, .string ⟨lb[j].t.toArray⟩, .int .i64 lb[j].v, .int .i64 tb] 34)).drew = W0 at *
        have hgs : w.heap.size ≤ wr.heap.size := hbl.size
        have hgx : w.heap.size ≤ wr.heap.size := by omega
        have hgy : w.heap.size ≤ (wr.heap.size + 1) := by omega
        have hne : wr.heap.size ≠ (wr.heap.size + 1) := by omega
        clear c1 c2 c3 c4 e1 e2 e3 e4 hb1 hb2 hbl hgs
        generalize wr.heap.size + 1 = gy at *
        generalize wr.heap.size = gx at *
        cases p with
        | true =>
          have h5 := Q4.out rfl
          subst h5
          clear Q4
          obtain ⟨f1, f2, f3, f4⟩ := kx.four
          obtain ⟨i1, i2, i3, i4⟩ := ky.four
          go_wp2_with fail
          go_roundg (la.length - (j + 1))
          case measure => omega
          case rel => exact ⟨j + 1, rfl, by omega, by simp, hb4⟩
        | false =>
          have z1 := kx.frozen 3
          have kx2 := kx.set_ 3 (.int .i64 0)
          have ky2 : Blk (W0.setCell ⟨gx, 3, none⟩ (.int .i64 0)) gy _ _ := Blk.far ky (Ne.symm hne) _
          have z2 := ky2.frozen 3
          have ky3 := ky2.set_ 3 (.int .i64 0)
          have kx3 : Blk ((W0.setCell ⟨gx, 3, none⟩ (.int .i64 0)).setCell ⟨gy, 3, none⟩ (.int .i64 0)) gx _ _ := Blk.far kx2 hne _
          have hb5 := grown_below (grown_below hb4 (grown_set W0 ⟨gx, 3, none⟩ (.int .i64 0)) hgx) (grown_set (W0.setCell ⟨gx, 3, none⟩ (.int .i64 0)) ⟨gy, 3, none⟩ (.int .i64 0)) hgy
          obtain ⟨f1, f2, f3, f4⟩ := kx.four
          obtain ⟨i1, i2, i3, i4⟩ := ky2.four
          obtain ⟨m1, m2, m3, m4⟩ := Blk.four (a := .int .i64 lb[j].k) (b := .string ⟨lb[j].t.toArray⟩) (c := .int .i64 lb[j].v) (d := .int .i64 0) kx3
          obtain ⟨n1, n2, n3, n4⟩ := Blk.four (a := .int .i64 lb[j].k) (b := .string ⟨lb[j].t.toArray⟩) (c := .int .i64 lb[j].v) (d := .int .i64 0) ky3
          clear kx ky kx2 ky2 kx3 ky3 Q4
          go_wp2_with fail
          go_roundg (la.length - (j + 1))
          case measure => omega
          case rel => exact ⟨j + 1, rfl, by omega, by simp, hb5⟩
      · have kx : Blk (((wr.alloc (.cells #[.int .i64 lb[j].k, .string ⟨lb[j].t.toArray⟩, .int .i64 lb[j].v, .int .i64 tb] 34)).alloc (.cells #[.int .i64 lb[j].k, .string ⟨lb[j].t.toArray⟩, .int .i64 lb[j].v, .int .i64 ta] 34)).drew) (wr.heap.size + 1) 34 #[.int .i64 lb[j].k, .string ⟨lb[j].t.toArray⟩, .int .i64 lb[j].v, .int .i64 ta] := (Blk.at_ (by simp)).drew
        have ky : Blk (((wr.alloc (.cells #[.int .i64 lb[j].k, .string ⟨lb[j].t.toArray⟩, .int .i64 lb[j].v, .int .i64 tb] 34)).alloc (.cells #[.int .i64 lb[j].k, .string ⟨lb[j].t.toArray⟩, .int .i64 lb[j].v, .int .i64 ta] 34)).drew) wr.heap.size 34 #[.int .i64 lb[j].k, .string ⟨lb[j].t.toArray⟩, .int .i64 lb[j].v, .int .i64 tb] := ((Blk.new wr 34 _).alloc _).drew
        have hb4 : Below w.heap.size w (((wr.alloc (.cells #[.int .i64 lb[j].k, .string ⟨lb[j].t.toArray⟩, .int .i64 lb[j].v, .int .i64 tb] 34)).alloc (.cells #[.int .i64 lb[j].k, .string ⟨lb[j].t.toArray⟩, .int .i64 lb[j].v, .int .i64 ta] 34)).drew) := (below_trans (below_trans hbl (below_alloc1 _ _)) (below_alloc1 _ _)).trans ((Read.refl _).drew.below _)
        generalize ((wr.alloc (.cells #[.int .i64 lb[j].k, .string ⟨lb[j].t.toArray⟩, .int .i64 lb[j].v, .int .i64 tb] 34)).alloc (.cells #[.int .i64 lb[j].k, .string ⟨lb[j].t.toArray⟩, .int .i64 lb[j].v, .int .i64 ta] 34)).drew = W0 at *
        have hgs : w.heap.size ≤ wr.heap.size := hbl.size
        have hgx : w.heap.size ≤ (wr.heap.size + 1) := by omega
        have hgy : w.heap.size ≤ wr.heap.size := by omega
        have hne : (wr.heap.size + 1) ≠ wr.heap.size := by omega
        clear c1 c2 c3 c4 e1 e2 e3 e4 hb1 hb2 hbl hgs
        generalize wr.heap.size + 1 = gx at *
        generalize wr.heap.size = gy at *
        cases p with
        | true =>
          have h5 := Q4.out rfl
          subst h5
          clear Q4
          obtain ⟨f1, f2, f3, f4⟩ := kx.four
          obtain ⟨i1, i2, i3, i4⟩ := ky.four
          go_wp2_with fail
          go_roundg (la.length - (j + 1))
          case measure => omega
          case rel => exact ⟨j + 1, rfl, by omega, by simp, hb4⟩
        | false =>
          have z1 := kx.frozen 3
          have kx2 := kx.set_ 3 (.int .i64 0)
          have ky2 : Blk (W0.setCell ⟨gx, 3, none⟩ (.int .i64 0)) gy _ _ := Blk.far ky (Ne.symm hne) _
          have z2 := ky2.frozen 3
          have ky3 := ky2.set_ 3 (.int .i64 0)
          have kx3 : Blk ((W0.setCell ⟨gx, 3, none⟩ (.int .i64 0)).setCell ⟨gy, 3, none⟩ (.int .i64 0)) gx _ _ := Blk.far kx2 hne _
          have hb5 := grown_below (grown_below hb4 (grown_set W0 ⟨gx, 3, none⟩ (.int .i64 0)) hgx) (grown_set (W0.setCell ⟨gx, 3, none⟩ (.int .i64 0)) ⟨gy, 3, none⟩ (.int .i64 0)) hgy
          obtain ⟨f1, f2, f3, f4⟩ := kx.four
          obtain ⟨i1, i2, i3, i4⟩ := ky2.four
          obtain ⟨m1, m2, m3, m4⟩ := Blk.four (a := .int .i64 lb[j].k) (b := .string ⟨lb[j].t.toArray⟩) (c := .int .i64 lb[j].v) (d := .int .i64 0) kx3
          obtain ⟨n1, n2, n3, n4⟩ := Blk.four (a := .int .i64 lb[j].k) (b := .string ⟨lb[j].t.toArray⟩) (c := .int .i64 lb[j].v) (d := .int .i64 0) ky3
          clear kx ky kx2 ky2 kx3 ky3 Q4
          go_wp2_with fail
          go_roundg (la.length - (j + 1))
          case measure => omega
          case rel => exact ⟨j + 1, rfl, by omega, by simp, hb5⟩
    · have d1 : decide ((j : Int) < (la.length : Int)) = false := decide_eq_false (by omega)
      go_wp2
      go_ret
      exact ⟨rfl, hbl⟩
end Go.Proofs.YtjjdpbfbpaobhaaDoor

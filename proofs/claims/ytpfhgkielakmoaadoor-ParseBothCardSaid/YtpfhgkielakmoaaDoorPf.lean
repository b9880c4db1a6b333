/-
  How items and expressions lie in memory.
-/
import Derived.Test.YtpfhgkielakmoaaDoorDat
import Derived.Test.YtpfhgkielakmoaaDoorPa
set_option linter.unusedSimpArgs false
set_option linter.unusedVariables false
namespace Go.Proofs.YtpfhgkielakmoaaDoor
open Go.RowKit

/-- A row of which the length alone is told. -/
def Dt.len {α : Type} (f : α → Nat) : Dt α := ⟨fun _ _ v a => ∃ A c, v = .slice A (f a) c, fun _ h => h, fun _ _ h => h⟩
def layE0 (ty : TypeId) : Lay Ex0 := ⟨ty, 4, fun
  | 0 => .eq fun x => .int .i64 x.k
  | 1 => .eq fun x => .int .i64 x.n
  | 2 => .eq fun x => .string ⟨x.s.toArray⟩
  | _ => .len (·.m)⟩
def layE (ty : TypeId) : Lay Ex := ⟨ty, 4, fun
  | 0 => .eq fun x => .int .i64 x.k
  | 1 => .eq fun x => .int .i64 x.n
  | 2 => .eq fun x => .string ⟨x.s.toArray⟩
  | _ => (layE0 ty).row.via (·.l)⟩
def layR : Lay (Int × Int) := ⟨63, 2, fun
  | 0 => .eq fun x => .int .i64 x.1
  | _ => .eq fun x => .int .i64 x.2⟩
def layI (ty te : TypeId) : Lay It := ⟨ty, 8, fun
  | 0 => .eq fun x => .int .i64 x.k
  | 1 => .eq fun x => .string ⟨x.name.toArray⟩
  | 2 => .eq fun x => .bool x.bool
  | 3 => layR.row.via (·.dom)
  | 4 => .eq fun x => .int .i64 x.size
  | 5 => .eq fun x => .bool x.out
  | 6 => (layE te).row.via (·.vals)
  | _ => .eq fun x => .int .i64 x.ask⟩
/-- Rows of expressions, as elements of a list. -/
theorem row_low {ty : TypeId} {F : Nat → Prop} {w : World} {v : Value} {l : List Ex} (h : (layE ty).row.P F w v l) : (layE0 ty).row.P F w v (l.map Ex.low) := by
  obtain ⟨A, c, h1, h2, h3, h4⟩ := h
  refine ⟨A, c, by rw [List.length_map]; exact h1, by rw [List.length_map]; exact h2, h3, fun hn => ?_⟩
  obtain ⟨b, o, h5, h6, h7, h8⟩ := h4 (by rintro rfl; exact hn rfl)
  refine ⟨b, o, h5, h6, h7, fun j hj k hk => ?_⟩
  rw [List.length_map] at hj
  obtain ⟨x, hx, hp⟩ := h8 j hj k hk
  refine ⟨x, hx, ?_⟩
  rw [List.getElem_map]
  have hk4 : k < 4 := hk
  match k, hk4 with
  | 0, _ => exact hp
  | 1, _ => exact hp
  | 2, _ => exact hp
  | 3, _ =>
    obtain ⟨A', c', e, _⟩ := hp
    exact ⟨A', c', e⟩
/-- A struct value, read by its cells. -/
def Lay.agg {α : Type} (L : Lay α) (F : Nat → Prop) (w : World) (v : Value) (x : α) : Prop := ∃ vs : Array Value, v = .agg vs ∧ vs.size = L.sz ∧ ∀ k, k < L.sz → ∃ u, vs[k]? = some u ∧ (L.C k).P F w u x
theorem Lay.agg_keep {α : Type} {L : Lay α} {F F' : Nat → Prop} {w w' : World} {v : Value} {x : α} (h : L.agg F w v x) (hs : w.heap.size ≤ w'.heap.size) (hk : ∀ b, F b → b < w.heap.size → w'.heap[b]? = w.heap[b]?) (hF : ∀ b, F b → F' b) : L.agg F' w' v x := by
  obtain ⟨vs, h1, h2, h3⟩ := h
  exact ⟨vs, h1, h2, fun k hk2 => by
    obtain ⟨u, hu, hp⟩ := h3 k hk2
    exact ⟨u, hu, (L.C k).mono hF ((L.C k).keep hs hk hp)⟩⟩
end Go.Proofs.YtpfhgkielakmoaaDoor

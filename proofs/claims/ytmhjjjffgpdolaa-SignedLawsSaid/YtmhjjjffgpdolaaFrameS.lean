/-
  What the rows' proofs share: a signed number that came in by value, read as a sign and digits.
-/
import Derived.Test.YtmhjjjffgpdolaaFrame
import Derived.Test.YtmhjjjffgpdolaaSgA
import Derived.Lib.SmallJoins
namespace Go.Proofs.Ytmhjjjffgpdolaa
open Go.ChangeShapes Go.WideShapes Go.ChangeAt Go.RowKit Go.Joins Num

set_option maxRecDepth 100000 in
theorem open_si {H : Type} {enc : TypeId × Value → H} {W : World} {base : Nat} {v : Value} {d : DataW H} {p : List MemPlace} (hv : Value.okWide Try.prog W .any base 24 v)
    (h : DataW.Trod enc Try.prog W 0 (fun _ => true) true 24 v d p) : ∃ (n : Bool) (A : Option Addr) (xs : List Nat) (c : Nat), v = iv n A xs.length c ∧ Rd W A c xs := by
  obtain ⟨v0, v1, y0, y1, k, rfl, _, _, h0, h1⟩ := open_agg2 Try.underlying24 (by kernel_rfl) (by kernel_rfl) hv h
  obtain ⟨b, hb, _⟩ := DataW.trod_bool Try.underlying4 h0
  obtain rfl : v0 = .bool b := by simpa using hb
  rcases open_ints Try.underlying22 Try.underlying67 (by kernel_rfl) h1 with ⟨hcs, _⟩ | ⟨x, l, c, zs, hcs, _, hl, hm, hz, _, hcell, hwz⟩
  · obtain rfl : v1 = .slice none 0 0 := by simpa using hcs
    exact ⟨b, none, [], 0, rfl, Rd.nil⟩
  · obtain rfl : v1 = .slice (some x) l c := by simpa using hcs
    obtain ⟨xs, hxs, hr⟩ := (IsRow.of_cells hl hm (by simpa using hz) hcell hwz).rd
    exact ⟨b, some x, xs, c, by rw [hxs], hr⟩
end Go.Proofs.Ytmhjjjffgpdolaa

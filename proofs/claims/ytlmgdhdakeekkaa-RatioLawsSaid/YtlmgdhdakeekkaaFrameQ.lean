/-
  What the rows' proofs share: a fraction that came in by value, read as two signs and digits.
-/
import Derived.Test.YtlmgdhdakeekkaaFrame
import Derived.Test.YtlmgdhdakeekkaaReg
import Derived.Lib.SmallJoins
namespace Go.Proofs.Ytlmgdhdakeekkaa
open Go.ChangeShapes Go.WideShapes Go.ChangeAt Go.RowKit Go.Joins Num

set_option maxRecDepth 100000 in
theorem open_num {H : Type} {enc : TypeId × Value → H} {W : World} {fuel : Nat} {v0 v1 : Value} {x : DataW H × List MemPlace}
    (h : DataW.trod enc Try.prog W 0 (fun _ => true) true fuel 24 [v0, v1] = some x) : ∃ (n : Bool) (A : Option Addr) (xs : List Nat) (c : Nat), v0 = .bool n ∧ v1 = .slice A xs.length c ∧ Rd W A c xs := by
  obtain ⟨y0, y1, k, _, _, h0, h1⟩ := trod_struct2 Try.underlying24 h
  have e0 : Try.prog.cellsOf 4 = 1 := by kernel_rfl
  have e1 : Try.prog.cellsOf 22 = 1 := by kernel_rfl
  simp only [e0, e1] at h0 h1
  replace h0 : DataW.trod enc Try.prog W 0 (fun _ => true) true k 4 [v0] = some y0 := h0
  replace h1 : DataW.trod enc Try.prog W 0 (fun _ => true) true k 22 [v1] = some y1 := h1
  obtain ⟨b, hb, _⟩ := DataW.trod_bool Try.underlying4 h0
  obtain rfl : v0 = .bool b := by simpa using hb
  rcases open_ints Try.underlying22 Try.underlying78 (by kernel_rfl) h1 with ⟨hcs, _⟩ | ⟨x, l, c, zs, hcs, _, hl, hm, hz, _, hcell, hwz⟩
  · obtain rfl : v1 = .slice none 0 0 := by simpa using hcs
    exact ⟨b, none, [], 0, rfl, rfl, Rd.nil⟩
  · obtain rfl : v1 = .slice (some x) l c := by simpa using hcs
    obtain ⟨xs, hxs, hr⟩ := (IsRow.of_cells hl hm (by simpa using hz) hcell hwz).rd
    exact ⟨b, some x, xs, c, rfl, by rw [hxs], hr⟩
set_option maxRecDepth 100000 in
theorem open_rq {H : Type} {enc : TypeId × Value → H} {W : World} {base : Nat} {v : Value} {d : DataW H} {p : List MemPlace} (hv : Value.okWide Try.prog W .any base 26 v)
    (h : DataW.Trod enc Try.prog W 0 (fun _ => true) true 26 v d p) : ∃ (n : Bool) (A : Option Addr) (xs : List Nat) (c : Nat) (m : Bool) (B : Option Addr) (ys : List Nat) (d : Nat), v = rv n A xs.length c m B ys.length d ∧ Rd W A c xs ∧ Rd W B d ys := by
  obtain ⟨cs, rfl, hsz⟩ := okWide_struct Try.underlying26 hv
  obtain ⟨c0, c1, c2, c3, rfl⟩ := array4 (hsz.trans (show Try.prog.cellsOf 26 = 4 by kernel_rfl))
  obtain ⟨fuel, hf⟩ := h
  obtain ⟨y0, y1, k, _, _, h0, h1⟩ := trod_struct2 Try.underlying26 hf
  have e0 : Try.prog.cellsOf 24 = 2 := by kernel_rfl
  simp only [e0] at h0 h1
  replace h0 : DataW.trod enc Try.prog W 0 (fun _ => true) true k 24 [c0, c1] = some y0 := h0
  replace h1 : DataW.trod enc Try.prog W 0 (fun _ => true) true k 24 [c2, c3] = some y1 := h1
  obtain ⟨n, A, xs, c, rfl, rfl, ha⟩ := open_num h0
  obtain ⟨m, B, ys, d', rfl, rfl, hb⟩ := open_num h1
  exact ⟨n, A, xs, c, m, B, ys, d', rfl, ha, hb⟩
end Go.Proofs.Ytlmgdhdakeekkaa

/-
  What the rows' proofs share: a row of tokens that came in.
-/
import Derived.Test.YtjjdpbfbpaobhaaDoorFrame
import Derived.Test.YtjjdpbfbpaobhaaDoorTk
import Derived.Lib.SmallJoins
import Derived.Deep.Slices
import Derived.LaidMore
import Derived.MakeChecks
namespace Go.Proofs.YtjjdpbfbpaobhaaDoor
open Go.ChangeShapes Go.WideShapes Go.ChangeAt Go.RowKit Go.Joins Go.Deep Num

theorem one_cell {W : World} {b o k : Nat} {cs : List Value} {n : Nat} (h : W.cells? 0 ⟨b, o, none⟩ n = some cs) (hk : k < n) : ∃ x, cs[k]? = some x ∧ W.cell? ⟨b, o + k, none⟩ = some x := by
  obtain ⟨_, hl, hc⟩ := World.cells?_some h
  refine ⟨_, List.getElem?_eq_getElem (by omega : k < cs.length), ?_⟩
  have e : (⟨b, o, none⟩ : Addr).add k = ⟨b, o + k, none⟩ := by simp [Addr.add]
  rw [← e, hc k hk, List.getElem?_eq_getElem (by omega : k < cs.length)]
-- a token's four cells
set_option maxRecDepth 100000 in
theorem trod_tok {H : Type} {enc : TypeId × Value → H} {W : World} {fuel : Nat} {cs : List Value} {x : DataW H × List MemPlace}
    (h : DataW.trod enc Tryd.prog W 0 (fun _ => true) true fuel 34 cs = some x) (hl : cs.length = 4) : ∃ t : Tok, cs = tcells t := by
  match cs, hl with
  | [a, b, c, d], _ =>
    obtain ⟨y0, y1, y2, y3, k, _, _, h0, h1, h2, h3⟩ := trod_struct4 Tryd.underlying34 h
    have e0 : Tryd.prog.cellsOf 3 = 1 := by kernel_rfl
    have e1 : Tryd.prog.cellsOf 9 = 1 := by kernel_rfl
    have e2 : Tryd.prog.cellsOf 2 = 1 := by kernel_rfl
    simp only [e0, e1, e2] at h0 h1 h2 h3
    replace h0 : DataW.trod enc Tryd.prog W 0 (fun _ => true) true k 3 [a] = some y0 := h0
    replace h1 : DataW.trod enc Tryd.prog W 0 (fun _ => true) true k 9 [b] = some y1 := h1
    replace h2 : DataW.trod enc Tryd.prog W 0 (fun _ => true) true k 2 [c] = some y2 := h2
    replace h3 : DataW.trod enc Tryd.prog W 0 (fun _ => true) true k 3 [d] = some y3 := h3
    obtain ⟨i0, q0, _⟩ := DataW.trod_int Tryd.underlying3 h0
    obtain ⟨s1, q1, _⟩ := DataW.trod_string Tryd.underlying9 h1
    obtain ⟨i2, q2, _⟩ := DataW.trod_int Tryd.underlying2 h2
    obtain ⟨i3, q3, _⟩ := DataW.trod_int Tryd.underlying3 h3
    obtain rfl : a = .int .i64 i0 := by simpa using q0
    obtain rfl : b = .string s1 := by simpa using q1
    obtain rfl : c = .int .i64 i2 := by simpa using q2
    obtain rfl : d = .int .i64 i3 := by simpa using q3
    exact ⟨⟨i0, s1.data.toList, i2, i3⟩, by simp [tcells]⟩
set_option maxRecDepth 100000 in
theorem open_toks {H : Type} {enc : TypeId × Value → H} {W : World} {base : Nat} {v : Value} {d : DataW H} {p : List MemPlace} (hv : Value.okWide Tryd.prog W .any base 27 v)
    (h : DataW.Trod enc Tryd.prog W 0 (fun _ => true) true 27 v d p) : ∃ (A : Option Addr) (l : List Tok) (c : Nat), v = .slice A l.length c ∧ RdT W A c l := by
  obtain ⟨A, len, cap, rfl⟩ := okWide_slice Tryd.underlying27 hv
  obtain ⟨fuel, hf⟩ := h
  have e4 : Tryd.prog.cellsOf 34 = 4 := by kernel_rfl
  rcases open_slice Tryd.underlying27 hf with ⟨hcs, _⟩ | ⟨a, len', cap', m, n, D, Pl, hcs, _, hl, hm, hmm, _, hi⟩
  · have e : (Value.slice A len cap) = .slice none 0 0 := by simpa [Value.cells] using hcs
    injection e with e1 e2 e3
    subst e1 e2 e3
    exact ⟨none, [], 0, rfl, RdT.nil (Nat.zero_le _)⟩
  · have e : (Value.slice A len cap) = .slice (some a) len' cap' := by simpa [Value.cells] using hcs
    injection e with e1 e2 e3
    subst e1 e2 e3
    rw [e4] at hi
    simp only [if_true] at hmm
    subst hmm
    by_cases h0 : len = 0
    · subst h0
      exact ⟨some a, [], m, rfl, RdT.nil hm⟩
    obtain ⟨b, o, spot⟩ := a
    obtain ⟨cs0, hc0, _⟩ := hi 0 (by omega)
    have hspot : spot = none := by
      obtain ⟨_, hl0, hcell⟩ := World.cells?_some hc0
      have h1 := hcell 0 (by decide)
      rw [List.getElem?_eq_getElem (by omega : 0 < cs0.length)] at h1
      have := World.cell?_spot h1
      simpa [Addr.add] using this
    subst hspot
    have hadd : ∀ o k, (⟨b, o, none⟩ : Addr).add k = ⟨b, o + k, none⟩ := fun o k => by simp [Addr.add]
    have hex : ∀ i, ∃ t : Tok, i < len → ∀ k, k < 4 → W.cell? ⟨b, o + i * 4 + k, none⟩ = (tcells t)[k]? := by
      intro i
      by_cases hil : i < len
      · obtain ⟨cs', hc, ht⟩ := hi i (by omega)
        obtain ⟨_, hl4, hcell⟩ := World.cells?_some hc
        obtain ⟨t, rfl⟩ := trod_tok ht hl4
        refine ⟨t, fun _ k hk => ?_⟩
        have := hcell k hk
        rw [hadd, hadd] at this
        exact this
      · exact ⟨⟨0, [], 0, 0⟩, fun h => absurd h hil⟩
    let f : Nat → Tok := fun i => (hex i).choose
    have hf : ∀ i, i < len → ∀ k, k < 4 → W.cell? ⟨b, o + i * 4 + k, none⟩ = (tcells (f i))[k]? := fun i h => (hex i).choose_spec h
    have hlen : ((List.range len).map f).length = len := by simp
    refine ⟨some ⟨b, o, none⟩, (List.range len).map f, m, by rw [hlen], by rw [hlen]; exact hl, hm, fun _ => ⟨b, o, rfl, ?_, fun j hj => ?_⟩⟩
    · have := hf 0 (by omega) 0 (by decide)
      exact World.block_lt_of_cell? W _ (this.trans rfl)
    · rw [hlen] at hj
      have e : ((List.range len).map f)[j]'(by simpa using hj) = f j := by simp
      rw [e]
      have c0 := hf j hj 0 (by decide)
      have c1 := hf j hj 1 (by decide)
      have c2 := hf j hj 2 (by decide)
      have c3 := hf j hj 3 (by decide)
      exact ⟨c0, c1, c2, c3⟩
end Go.Proofs.YtjjdpbfbpaobhaaDoor

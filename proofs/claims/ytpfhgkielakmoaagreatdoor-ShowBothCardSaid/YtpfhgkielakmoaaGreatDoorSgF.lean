/-
  Words for rows of bytes of the call's own; the contract of slices.Reverse on them.
  Contracts of the functions on digits that only read: Right, trim, order, Less, Same, digit.
  Contracts: the reference's trim, Less, digit; Cmp of both; fit of both.
  Contracts of math/bits' Add32, Sub32, Div32, Len32, LeadingZeros32.
  Contracts of fit, digit, Plus, Minus, Add, Sub, Less, Cmp of both.
  Contracts of Less, Cmp, Add, Sub of both.
  Contracts of Add and Sub of both.
  Contracts of scaled, Product, Mul of both, Of of both.
  Contracts of Mul of both, Of of both.
  Contracts of shift, guess, less, again.
  Contracts of less, again.
  Contracts of Of of both, small, Clone, twice.
  Contracts of Clone, twice, the reference's DivMod.
  Contract of long.
  Contracts of Clone and DivMod.
  Contract of nat.Text.
  The law's own helpers: alive and few of touchstonelaw02.
  The walks of the laws NatDivs, NatSums, NatMuls, NatMakes (as far as they need no more), NatOrder, NatLaws.
  Contract of nat.Parse.
  The walks of the laws NatSums and NatMuls.
  The walks of the laws NatOrder and NatLaws.
  The walk of the law NatLaws.
  Contracts of Uint of both; the walk of the law NatMakes.
  The walk of the law NatBack.
  Signed numbers, plain: sign and digits against the whole number; what each function tells.
  Signed numbers, plain: what 'made' tells of digits is the number; quotients rounded down.
  Signed numbers: words, and the contracts of Right of both, and of what turns one into the other.
  Contracts of signed.made, Of, Neg, Small, Cmp.
  Contracts of signed.Neg, Of, Cmp, Add, Mul.
  Contracts of signed.Add and Cmp.
  Contracts of signed.Cmp, Of, Small.
  Contract of signed.DivMod.
  Contract of signed.Gcd.
  Contracts of signed.Text and Parse.
  Contract of signed.Parse.
  Contracts of touchstoneref03: made, fit, less, Same, Sum, Times.
  Contracts of touchstoneref03: Sum, Times, Add, Mul.
  Contracts of touchstoneref03: Times, Add, Mul.
  Contracts of touchstoneref03: Neg, Of, Small.
  Contracts of touchstoneref03: less, Cmp, Same.
  Contract of touchstoneref03.DivMod.
  Contract of touchstoneref03.Gcd.
  The law's own helpers: few, right, alive of touchstonelaw03.
  alive of touchstonelaw03.
  A memory as a list of known blocks and of slices that read as digits.
-/
import Derived.Test.YtpfhgkielakmoaaGreatDoorBase
import Derived.Test.YtpfhgkielakmoaaGreatDoorDivP
import Derived.RegionTactic
import Derived.BigRegion
import Derived.Laws.IdiomStrings
import Derived.Maps.AppendAt
import Derived.Deep.QuietTactic
import Derived.BigQuiet
import Derived.Laws.BitsAllLaws
import Derived.Laws.MathBits
import Derived.StillTailTactics
import Derived.Lib.RabinKarpLaws
import Derived.Lib.Strings
import Derived.OpenShut
import Derived.WalkSpells
import Derived.Deep.RegionHeld3
namespace Go.Proofs.YtpfhgkielakmoaaGreatDoor
open Go.RowKit Num

/-- A byte as a value. -/
def bv (b : UInt8) : Value := .int .u8 (b.toNat : Int)
def OwnB (w : World) (base : Nat) (v : Value) (bs : List UInt8) : Prop := w.ownsRow base 5 1 v bs.length (bs.map bv)
theorem OwnB.nil (w : World) (base : Nat) : OwnB w base (.slice none 0 0) [] := World.ownsRow_nil w base 5 1
theorem OwnB.alloc {w : World} {base : Nat} {v : Value} {xs : List UInt8} (h : OwnB w base v xs) (o : Obj) : OwnB (w.alloc o) base v xs := World.ownsRow.alloc h o
theorem OwnB.drewN {w : World} {base : Nat} {v : Value} {xs : List UInt8} (h : OwnB w base v xs) (n : Nat) : OwnB (w.drewN n) base v xs := h
theorem OwnB.below {w w' : World} {base : Nat} {v : Value} {xs : List UInt8} (h : OwnB w base v xs) {B : Nat} (hb : Below B w w') (hB : w.heap.size ≤ B) : OwnB w' base v xs := by
  obtain ⟨h1, h2⟩ := h
  refine ⟨h1, ?_⟩
  rcases h2 with h2 | ⟨g, cap, cur, hv, hg, hh, r⟩
  · exact Or.inl h2
  · have : g < w.heap.size := (Array.getElem?_eq_some_iff.1 hh).1
    exact Or.inr ⟨g, cap, cur, hv, hg, by rw [hb.block g (by omega)]; exact hh, r⟩
theorem OwnB.form {w : World} {base : Nat} {v : Value} {xs : List UInt8} (h : OwnB w base v xs) : (v = .slice none 0 0 ∧ xs = []) ∨ ∃ g cap, v = .slice (some ⟨g, 0, none⟩) xs.length cap ∧ base ≤ g ∧ xs.length ≤ cap ∧ cap ≤ maxLen := by
  rcases h.2 with ⟨hv, h0⟩ | ⟨g, cap, cur, hv, hg, _, hc, hm, _⟩
  · exact .inl ⟨hv, List.eq_nil_of_length_eq_zero h0⟩
  · exact .inr ⟨g, cap, hv, hg, hc, hm⟩

/-- 'string(out)'. -/
theorem OwnB.text {w : World} {base : Nat} {v : Value} {xs : List UInt8} (h : OwnB w base v xs) (hne : xs ≠ []) :
    (convert 52 9 v).run Tryz.prog w = .ok (.string ⟨xs.toArray⟩) w := by
  rcases h.form with ⟨_, h0⟩ | ⟨g, cap, rfl, _, hc, hm⟩
  · exact absurd h0 hne
  · refine run_convert_bytes_back w 52 9 5 ⟨g, 0, none⟩ cap xs Tryz.underlying52 Tryz.underlying5 Tryz.underlying9 (fun j hj => ?_)
    have := World.ownsRow.cellAt h j (by omega)
    have e : (⟨g, 0, none⟩ : Addr).add j = ⟨g, j, none⟩ := by unfold Addr.add; split <;> simp_all
    rw [e, this]
    simp [hj, bv]

theorem OwnB.set {w : World} {base g cap n : Nat} {xs : List UInt8} (h : OwnB w base (.slice (some ⟨g, 0, none⟩) n cap) xs) (hn : xs.length = n) (j : Nat) (d : UInt8) :
    OwnB (w.setCell ⟨g, j, none⟩ (.int .u8 (d.toNat : Int))) base (.slice (some ⟨g, 0, none⟩) n cap) (xs.set j d) ∧ w.grownBy (w.setCell ⟨g, j, none⟩ (.int .u8 (d.toNat : Int))) (some g) := by
  subst hn
  have := World.ownsRow.stored h j (bv d)
  refine ⟨?_, this.2⟩
  unfold OwnB
  rw [List.length_set, List.map_set]
  exact this.1

/-- A slice of digits outside a row of the call's own. -/
def RdOff (w : World) (A : Option Addr) (c : Nat) (xs : List Nat) (v : Value) : Prop := Rd w A c xs ∧ (xs ≠ [] → ∀ a g, A = some a → v.ownBlock = some g → a.block ≠ g)
theorem RdOff.fresh {w w1 : World} {base : Nat} {A : Option Addr} {c : Nat} {xs : List Nat} {v : Value} {bs : List UInt8} (h : Rd w1 A c xs) (hf : ∀ a, A = some a → w.heap.size ≤ a.block) (ho : OwnB w base v bs) : RdOff w1 A c xs v :=
  ⟨h, fun _ a g ha hv => by have := (World.ownsRow.lt ho g hv).2; have := hf a ha; omega⟩
theorem RdOff.old {w : World} {A : Option Addr} {c : Nat} {xs : List Nat} (h : Rd w A c xs) : RdOff w A c xs (.slice none 0 0) := ⟨h, fun _ a g _ hv => by cases hv⟩

end Go.Proofs.YtpfhgkielakmoaaGreatDoor

namespace Go.Proofs.YtpfhgkielakmoaaGreatDoor
open Go.RowKit Num

instance (ds : List Nat) : Decidable (Fine ds) := by unfold Fine; infer_instance
end Go.Proofs.YtpfhgkielakmoaaGreatDoor

namespace Go.Proofs.YtpfhgkielakmoaaGreatDoor
open Go.RowKit Num

end Go.Proofs.YtpfhgkielakmoaaGreatDoor

namespace Go.Proofs.YtpfhgkielakmoaaGreatDoor
open Go.RowKit Num

end Go.Proofs.YtpfhgkielakmoaaGreatDoor

namespace Go.Proofs.YtpfhgkielakmoaaGreatDoor
open Go.RowKit Num

theorem step_add {P a b o cr dx dy s q : Nat} (h : o + P * cr = a + b) (hs : s + 4294967296 * q = dx + dy + cr) : (o + P * s) + (P * 4294967296) * q = (a + P * dx) + (b + P * dy) := by
  have e : P * s + P * 4294967296 * q = P * dx + P * dy + P * cr := by
    rw [Nat.mul_assoc, ← Nat.mul_add, hs, Nat.mul_add, Nat.mul_add]
  omega
theorem step_sub {P a b o cr dx dy s q : Nat} (h : o + b = a + P * cr) (hs : s + dy + cr = dx + 4294967296 * q) : (o + P * s) + (b + P * dy) = (a + P * dx) + (P * 4294967296) * q := by
  have e : P * s + P * dy + P * cr = P * dx + P * 4294967296 * q := by
    rw [Nat.mul_assoc, ← Nat.mul_add, ← Nat.mul_add, hs, Nat.mul_add]
  omega

theorem carry_out {P o x y cr : Nat} (b1 : x < P) (b2 : y < P) (h3 : o + P * 4294967296 * cr = x + y) : o = x + y := by
  rcases Nat.eq_zero_or_pos cr with hc | hc
  · rw [hc, Nat.mul_zero] at h3
    omega
  · obtain ⟨c', hc'⟩ : ∃ c', cr = c' + 1 := ⟨cr - 1, by omega⟩
    rw [hc', Nat.mul_add, Nat.mul_one] at h3
    generalize P * 4294967296 * c' = Z at h3
    omega

/-- The sum, digit by digit: out so far, the carry. -/
def AddTo (xs ys : List Nat) (k : Nat) (outs : List Nat) (cr : Nat) : Prop := Ok outs ∧ outs.length = k ∧ val outs + 4294967296 ^ k * cr = val (xs.take k) + val (ys.take k)
theorem AddTo.zero (xs ys : List Nat) : AddTo xs ys 0 [] 0 := ⟨Ok.nil, rfl, by simp [val]⟩
theorem AddTo.step {xs ys : List Nat} {k : Nat} {outs : List Nat} {cr s q : Nat} (h : AddTo xs ys k outs cr) (hs : s < 4294967296) (e : s + 4294967296 * q = at0 xs k + at0 ys k + cr) :
    AddTo xs ys (k + 1) (outs ++ [s]) q := by
  obtain ⟨h1, h2, h3⟩ := h
  refine ⟨h1.append (Ok.cons hs Ok.nil), by simp [h2], ?_⟩
  rw [val_snoc, h2, val_take_at0, val_take_at0, Nat.pow_succ]
  generalize 4294967296 ^ k = P at h3 ⊢
  exact step_add h3 e
theorem AddTo.done {xs ys : List Nat} {k : Nat} {outs : List Nat} {cr : Nat} (h : AddTo xs ys k outs cr) (hx : Ok xs) (hy : Ok ys) (h1 : xs.length < k) (h2 : ys.length < k) : val outs = val xs + val ys := by
  obtain ⟨_, _, h3⟩ := h
  rw [List.take_of_length_le (by omega), List.take_of_length_le (by omega)] at h3
  obtain ⟨j, rfl⟩ : ∃ j, k = j + 1 := ⟨k - 1, by omega⟩
  have b1 : val xs < 4294967296 ^ j := Nat.lt_of_lt_of_le (val_lt hx) (Nat.pow_le_pow_right (by decide) (by omega))
  have b2 : val ys < 4294967296 ^ j := Nat.lt_of_lt_of_le (val_lt hy) (Nat.pow_le_pow_right (by decide) (by omega))
  rw [Nat.pow_succ] at h3
  generalize 4294967296 ^ j = P at h3 b1 b2
  exact carry_out b1 b2 h3
/-- The same where one carry more is written behind the longer number's digits. -/
theorem AddTo.last {xs ys : List Nat} {k : Nat} {outs : List Nat} {cr : Nat} (h : AddTo xs ys k outs cr) (h1 : xs.length ≤ k) (h2 : ys.length ≤ k) : val (outs ++ [cr]) = val xs + val ys := by
  obtain ⟨_, hl, h3⟩ := h
  rw [List.take_of_length_le h1, List.take_of_length_le h2] at h3
  rw [val_snoc, hl, h3]

/-- The difference, digit by digit. -/
def SubTo (xs ys : List Nat) (k : Nat) (outs : List Nat) (cr : Nat) : Prop := Ok outs ∧ outs.length = k ∧ val outs + val (ys.take k) = val (xs.take k) + 4294967296 ^ k * cr
theorem SubTo.zero (xs ys : List Nat) : SubTo xs ys 0 [] 0 := ⟨Ok.nil, rfl, by simp [val]⟩
theorem SubTo.step {xs ys : List Nat} {k : Nat} {outs : List Nat} {cr s q : Nat} (h : SubTo xs ys k outs cr) (hs : s < 4294967296) (e : s + at0 ys k + cr = at0 xs k + 4294967296 * q) :
    SubTo xs ys (k + 1) (outs ++ [s]) q := by
  obtain ⟨h1, h2, h3⟩ := h
  refine ⟨h1.append (Ok.cons hs Ok.nil), by simp [h2], ?_⟩
  rw [val_snoc, h2, val_take_at0, val_take_at0, Nat.pow_succ]
  generalize 4294967296 ^ k = P at h3 ⊢
  exact step_sub h3 e
theorem borrow_out {P o x y cr : Nat} (b1 : o < P) (b2 : y ≤ x) (h3 : o + y = x + P * cr) : o = x - y := by
  rcases Nat.eq_zero_or_pos cr with hc | hc
  · rw [hc, Nat.mul_zero] at h3
    omega
  · obtain ⟨c', hc'⟩ : ∃ c', cr = c' + 1 := ⟨cr - 1, by omega⟩
    rw [hc', Nat.mul_add, Nat.mul_one] at h3
    generalize P * c' = Z at h3
    omega
theorem SubTo.done {xs ys : List Nat} {k : Nat} {outs : List Nat} {cr : Nat} (h : SubTo xs ys k outs cr) (h1 : xs.length ≤ k) (h2 : ys.length ≤ k) (hle : val ys ≤ val xs) : val outs = val xs - val ys := by
  obtain ⟨ho, hl, h3⟩ := h
  rw [List.take_of_length_le h1, List.take_of_length_le h2] at h3
  have b := val_lt ho
  rw [hl] at b
  generalize 4294967296 ^ k = P at h3 b
  exact borrow_out b hle h3

end Go.Proofs.YtpfhgkielakmoaaGreatDoor

namespace Go.Proofs.YtpfhgkielakmoaaGreatDoor
open Go.RowKit Num

end Go.Proofs.YtpfhgkielakmoaaGreatDoor

namespace Go.Proofs.YtpfhgkielakmoaaGreatDoor
open Go.RowKit Num

end Go.Proofs.YtpfhgkielakmoaaGreatDoor

namespace Go.Proofs.YtpfhgkielakmoaaGreatDoor
open Go.RowKit Num

end Go.Proofs.YtpfhgkielakmoaaGreatDoor

namespace Go.Proofs.YtpfhgkielakmoaaGreatDoor
open Go.RowKit Num



end Go.Proofs.YtpfhgkielakmoaaGreatDoor

namespace Go.Proofs.YtpfhgkielakmoaaGreatDoor
open Go.RowKit Num

end Go.Proofs.YtpfhgkielakmoaaGreatDoor

namespace Go.Proofs.YtpfhgkielakmoaaGreatDoor
open Go.RowKit Num

theorem gb_refl (w : World) (row : Option Nat) : w.grownBy w row := ⟨rfl, rfl, rfl, Nat.le_refl _, fun _ _ _ => rfl⟩
theorem gb_trans {w w' w'' : World} {row : Option Nat} (h : w.grownBy w' row) (h' : w'.grownBy w'' row) : w.grownBy w'' row :=
  ⟨h'.os.trans h.os, h'.tape.trans h.tape, h'.output.trans h.output, Nat.le_trans h.size h'.size, fun k hk hne => (h'.block k (Nat.lt_of_lt_of_le hk h.size) hne).trans (h.block k hk hne)⟩
theorem gb_set {w w' : World} {g : Nat} (h : w.grownBy w' (some g)) (i : Nat) (u : Value) : w.grownBy (w'.setCell ⟨g, i, none⟩ u) (some g) :=
  gb_trans h ⟨rfl, rfl, rfl, by simp [World.setCell], fun k _ hne => Below.heap_setCell _ _ _ _ (fun e => hne (by rw [e]))⟩
theorem Row.grown {w w' : World} {g h : Nat} {xs : List Nat} (hr : Row w h xs) (hg : w.grownBy w' (some g)) (hne : h ≠ g) : Row w' h xs := (hg.block h hr.lt (fun e => hne (by injection e))).trans hr
/-- A slice outside a block. -/
def Off (A : Option Addr) (g : Nat) : Prop := ∀ a, A = some a → a.block ≠ g
theorem Rd.grown {w w' : World} {A : Option Addr} {c g : Nat} {xs : List Nat} (h : Rd w A c xs) (hg : w.grownBy w' (some g)) (hne : Off A g) : Rd w' A c xs :=
  ⟨h.room, h.cap, h.ok, fun hn => by
    obtain ⟨b, o, hA, hlt, hc⟩ := h.at_ hn
    exact ⟨b, o, hA, Nat.lt_of_lt_of_le hlt hg.size, fun j hj => hg.cell (hc j hj) (fun e => hne _ hA (by simpa using e))⟩⟩
end Go.Proofs.YtpfhgkielakmoaaGreatDoor

namespace Go.Proofs.YtpfhgkielakmoaaGreatDoor
open Go.RowKit Num

end Go.Proofs.YtpfhgkielakmoaaGreatDoor

namespace Go.Proofs.YtpfhgkielakmoaaGreatDoor
open Go.RowKit Num

end Go.Proofs.YtpfhgkielakmoaaGreatDoor

namespace Go.Proofs.YtpfhgkielakmoaaGreatDoor
open Go.RowKit Num

theorem Rd.far {w : World} {A : Option Addr} {c g : Nat} {xs : List Nat} (h : Rd w A c xs) (hne : Off A g) (i : Nat) (u : Value) : Rd (w.setCell ⟨g, i, none⟩ u) A c xs := h.grown (gb_set (gb_refl w (some g)) i u) hne

end Go.Proofs.YtpfhgkielakmoaaGreatDoor

namespace Go.Proofs.YtpfhgkielakmoaaGreatDoor
open Go.RowKit Num

end Go.Proofs.YtpfhgkielakmoaaGreatDoor

namespace Go.Proofs.YtpfhgkielakmoaaGreatDoor
open Go.RowKit Num

end Go.Proofs.YtpfhgkielakmoaaGreatDoor

namespace Go.Proofs.YtpfhgkielakmoaaGreatDoor
open Go.RowKit Num

end Go.Proofs.YtpfhgkielakmoaaGreatDoor

namespace Go.Proofs.YtpfhgkielakmoaaGreatDoor
open Go.RowKit Num

theorem Rd.len {w : World} {A : Option Addr} {c : Nat} {xs : List Nat} (h : Rd w A c xs) : xs.length ≤ 9223372036854775807 := by
  have h1 := h.room
  have h2 := h.cap
  unfold maxLen at h2
  omega
end Go.Proofs.YtpfhgkielakmoaaGreatDoor

namespace Go.Proofs.YtpfhgkielakmoaaGreatDoor
open Go.RowKit Num

theorem Own.form {w : World} {base : Nat} {v : Value} {xs : List Nat} (h : Own w base v xs) : (v = .slice none 0 0 ∧ xs = []) ∨ ∃ g cap, v = .slice (some ⟨g, 0, none⟩) xs.length cap ∧ base ≤ g := by
  rcases h.2 with ⟨hv, h0⟩ | ⟨g, cap, cur, hv, hg, _⟩
  · exact .inl ⟨hv, List.eq_nil_of_length_eq_zero h0⟩
  · exact .inr ⟨g, cap, hv, hg⟩
theorem Own.set {w : World} {base g cap n : Nat} {xs : List Nat} (h : Own w base (.slice (some ⟨g, 0, none⟩) n cap) xs) (hn : xs.length = n) (j d : Nat) {D : Int} (hD : D = (d : Int)) :
    Own (w.setCell ⟨g, j, none⟩ (.int .u32 D)) base (.slice (some ⟨g, 0, none⟩) n cap) (xs.set j d) := by
  subst hn hD
  have := World.ownsRow.stored h j (dv d)
  unfold Own
  rw [List.length_set, List.map_set]
  exact this.1
theorem Own.cell {w : World} {base g cap n : Nat} {xs : List Nat} (h : Own w base (.slice (some ⟨g, 0, none⟩) n cap) xs) (hn : xs.length = n) {j : Nat} (hj : j < xs.length) :
    w.cell? ⟨g, j, none⟩ = some (.int .u32 xs[j]) ∧ w.frozen? ⟨g, j, none⟩ = false := by
  subst hn
  refine ⟨?_, World.ownsRow.frozenAt h j⟩
  rw [World.ownsRow.cellAt h j (by omega)]
  simp [hj, dv]

end Go.Proofs.YtpfhgkielakmoaaGreatDoor

namespace Go.Proofs.YtpfhgkielakmoaaGreatDoor
open Go.RowKit Num

end Go.Proofs.YtpfhgkielakmoaaGreatDoor

namespace Go.Proofs.YtpfhgkielakmoaaGreatDoor
open Go.RowKit Num

end Go.Proofs.YtpfhgkielakmoaaGreatDoor

namespace Go.Proofs.YtpfhgkielakmoaaGreatDoor
open Go.RowKit Num

end Go.Proofs.YtpfhgkielakmoaaGreatDoor

namespace Go.Proofs.YtpfhgkielakmoaaGreatDoor
open Go.RowKit Num

end Go.Proofs.YtpfhgkielakmoaaGreatDoor

namespace Go.Proofs.YtpfhgkielakmoaaGreatDoor
open Go.RowKit Num

end Go.Proofs.YtpfhgkielakmoaaGreatDoor

set_option linter.unusedSimpArgs false
set_option linter.unusedVariables false
namespace Go.Proofs.YtpfhgkielakmoaaGreatDoor
open Go.RowKit Num

abbrev R3 := Bool × List Nat × Int
end Go.Proofs.YtpfhgkielakmoaaGreatDoor

namespace Go.Proofs.YtpfhgkielakmoaaGreatDoor
open Go.RowKit Num

end Go.Proofs.YtpfhgkielakmoaaGreatDoor

namespace Go.Proofs.YtpfhgkielakmoaaGreatDoor
open Go.RowKit Num

/-- A signed number as a value. -/
abbrev iv (neg : Bool) (A : Option Addr) (n c : Nat) : Value := .agg #[.bool neg, .slice A n c]
theorem below_alloc1 (w : World) (o : Obj) : Below w.heap.size w (w.alloc o) := (Below.refl w.heap.size w).alloc (Nat.le_refl _) o
/-- The call hands back a number and what is wrong. -/
def RetI (w w' : World) (e : Ending) (r : R3) : Prop := (∃ A c, e = .returned (.tuple #[iv r.1 A r.2.1.length c, .int .i64 r.2.2]) ∧ Rd w' A c r.2.1) ∧ Below w.heap.size w w'
end Go.Proofs.YtpfhgkielakmoaaGreatDoor

namespace Go.Proofs.YtpfhgkielakmoaaGreatDoor
open Go.RowKit Num

/-- Block g is just the cells cs. -/
def Blk (w : World) (g : Nat) (t : TypeId) (cs : Array Value) : Prop := w.heap[g]? = some (.cells cs t (0, 0))
theorem Blk.lt {w : World} {g : Nat} {t : TypeId} {cs : Array Value} (h : Blk w g t cs) : g < w.heap.size := (Array.getElem?_eq_some_iff.1 h).1
theorem Blk.cell {w : World} {g : Nat} {t : TypeId} {cs : Array Value} (h : Blk w g t cs) (i : Nat) : w.cell? ⟨g, i, none⟩ = cs[i]? := cell_of_row w g i cs t (0, 0) h
theorem Blk.frozen {w : World} {g : Nat} {t : TypeId} {cs : Array Value} (h : Blk w g t cs) (i : Nat) : w.frozen? ⟨g, i, none⟩ = false := by
  unfold Blk at h
  simp [World.frozen?, h]
theorem Blk.new (w : World) (t : TypeId) (cs : Array Value) : Blk (w.alloc (.cells cs t)) w.heap.size t cs := heap_alloc_new w _
theorem Blk.at_ {w : World} {g : Nat} {t : TypeId} {cs : Array Value} (h : g = w.heap.size) : Blk (w.alloc (.cells cs t)) g t cs := by subst h; exact Blk.new ..
theorem Blk.drewN {w : World} {g : Nat} {t : TypeId} {cs : Array Value} (h : Blk w g t cs) (n : Nat) : Blk (w.drewN n) g t cs := h
theorem Blk.drew {w : World} {g : Nat} {t : TypeId} {cs : Array Value} (h : Blk w g t cs) : Blk w.drew g t cs := h
theorem Blk.alloc {w : World} {g : Nat} {t : TypeId} {cs : Array Value} (h : Blk w g t cs) (o : Obj) : Blk (w.alloc o) g t cs := (Below.heap_alloc w o g h.lt).trans h
theorem Blk.set_ {w : World} {g : Nat} {t : TypeId} {cs : Array Value} (h : Blk w g t cs) (i : Nat) (u : Value) : Blk (w.setCell ⟨g, i, none⟩ u) g t (cs.setIfInBounds i u) := by
  unfold Blk at h ⊢
  simp [World.setCell, Array.getElem?_modify, h]
theorem Blk.far {w : World} {g : Nat} {t : TypeId} {cs : Array Value} (h : Blk w g t cs) {p : Addr} (hp : g ≠ p.block) (u : Value) : Blk (w.setCell p u) g t cs := (Below.heap_setCell w p u g hp).trans h
theorem Blk.below {w w' : World} {g B : Nat} {t : TypeId} {cs : Array Value} (h : Blk w g t cs) (hb : Below B w w') (hB : w.heap.size ≤ B) : Blk w' g t cs := (hb.block g (Nat.lt_of_lt_of_le h.lt hB)).trans h
theorem Blk.put {w : World} {g : Nat} {t : TypeId} {u v : Value} (h : Blk w g t #[u, v]) (a b : Value) : Blk ((w.setCell ⟨g, 0, none⟩ a).setCell ⟨g, 1, none⟩ b) g t #[a, b] := (h.set_ 0 a).set_ 1 b
theorem Blk.away {w : World} {g k : Nat} {t : TypeId} {cs : Array Value} (h : Blk w g t cs) (hne : g ≠ k) (a b : Value) : Blk ((w.setCell ⟨k, 0, none⟩ a).setCell ⟨k, 1, none⟩ b) g t cs := (h.far hne a).far hne b
/-- Block g holds a signed number. -/
def IB (w : World) (g : Nat) : Prop := ∃ n A l c t, w.heap[g]? = some (.cells #[.bool n, .slice A l c] t (0, 0))
theorem IB.lt {w : World} {g : Nat} (h : IB w g) : g < w.heap.size := by
  obtain ⟨n, A, l, c, t, h⟩ := h
  exact (Array.getElem?_eq_some_iff.1 h).1
theorem Blk.ib {w : World} {g : Nat} {t : TypeId} {n : Bool} {A : Option Addr} {l c : Nat} (h : Blk w g t #[.bool n, .slice A l c]) : IB w g := ⟨n, A, l, c, t, h⟩
theorem IB.drew {w : World} {g : Nat} (h : IB w g) : IB w.drew g := h
theorem IB.new (w : World) (n : Bool) (A : Option Addr) (l c t : Nat) : IB (w.alloc (.cells #[.bool n, .slice A l c] t)) w.heap.size := ⟨n, A, l, c, t, heap_alloc_new w _⟩
theorem IB.alloc {w : World} {g : Nat} (h : IB w g) (o : Obj) : IB (w.alloc o) g := by
  have hl := h.lt
  obtain ⟨n, A, l, c, t, h⟩ := h
  exact ⟨n, A, l, c, t, (Below.heap_alloc w o g hl).trans h⟩
theorem IB.below {w w' : World} {g B : Nat} (h : IB w g) (hb : Below B w w') (hB : w.heap.size ≤ B) : IB w' g := by
  have hl := h.lt
  obtain ⟨n, A, l, c, t, h⟩ := h
  exact ⟨n, A, l, c, t, (hb.block g (Nat.lt_of_lt_of_le hl hB)).trans h⟩
theorem IB.cell {w : World} {g o d : Nat} (h : IB w g) (hc : w.cell? ⟨g, o, none⟩ = some (.int .u32 d)) : False := by
  obtain ⟨n, A, l, c, t, h⟩ := h
  rw [cell_of_row w g o _ t (0, 0) h] at hc
  match o, hc with
  | 0, hc => simp at hc
  | 1, hc => simp at hc
  | o + 2, hc => simp at hc
theorem IB.set0 {w : World} {g : Nat} (h : IB w g) (m : Bool) : IB (w.setCell ⟨g, 0, none⟩ (.bool m)) g := by
  obtain ⟨n, A, l, c, t, h⟩ := h
  exact ⟨m, A, l, c, t, by simp [World.setCell, Array.getElem?_modify, h]⟩
theorem Rd.box {w : World} {A : Option Addr} {c g : Nat} {xs : List Nat} (h : Rd w A c xs) (hg : IB w g) (i : Nat) (u : Value) : Rd (w.setCell ⟨g, i, none⟩ u) A c xs := by
  refine ⟨h.room, h.cap, h.ok, fun hn => ?_⟩
  obtain ⟨b, o, hA, hlt, hc⟩ := h.at_ hn
  refine ⟨b, o, hA, by simpa [World.setCell] using hlt, fun j hj => ?_⟩
  have hne : b ≠ g := by
    rintro rfl
    exact hg.cell (hc 0 (List.length_pos_iff.2 hn))
  rw [World.cell?_of_block (Below.heap_setCell w ⟨g, i, none⟩ u b hne)]
  exact hc j hj
theorem Rd.put {w : World} {A : Option Addr} {c g : Nat} {xs : List Nat} (h : Rd w A c xs) (hg : IB w g) (n : Bool) (u : Value) : Rd ((w.setCell ⟨g, 0, none⟩ (.bool n)).setCell ⟨g, 1, none⟩ u) A c xs := (h.box hg 0 _).box (hg.set0 n) 1 u
theorem below_put {w0 w : World} {B g : Nat} (h : Below B w0 w) (hg : B ≤ g) (u v : Value) : Below B w0 ((w.setCell ⟨g, 0, none⟩ u).setCell ⟨g, 1, none⟩ v) := (h.setCell hg _).setCell hg _

/-- What holds where a block of a number alone has turned. -/
theorem Rd.turn {w w' : World} {A : Option Addr} {c g : Nat} {xs : List Nat} (h : Rd w A c xs) (hg : w.grownBy w' (some g)) (hi : IB w g) : Rd w' A c xs := by
  refine ⟨h.room, h.cap, h.ok, fun hn => ?_⟩
  obtain ⟨b, o, hA, hlt, hc⟩ := h.at_ hn
  refine ⟨b, o, hA, Nat.lt_of_lt_of_le hlt hg.size, fun j hj => ?_⟩
  have hne : b ≠ g := by
    rintro rfl
    exact hi.cell (hc 0 (List.length_pos_iff.2 hn))
  rw [World.cell?_of_block (hg.block b hlt (fun e => hne (by injection e)))]
  exact hc j hj
theorem Blk.turn {w w' : World} {g k : Nat} {t : TypeId} {cs : Array Value} (h : Blk w g t cs) (hg : w.grownBy w' (some k)) (hne : g ≠ k) : Blk w' g t cs := (hg.block g h.lt (fun e => hne (by injection e))).trans h
theorem setRow_grown (w : World) (g : Nat) (cs : Array Value) : w.grownBy (w.setRow g cs) (some g) :=
  ⟨rfl, rfl, rfl, by simp [World.setRow], fun k _ hne => by
    have hk : g ≠ k := fun e => hne (by rw [e])
    simp [World.setRow, Array.getElem?_modify, hk]⟩
theorem Blk.row {w : World} {g : Nat} {t : TypeId} {cs : Array Value} (h : Blk w g t cs) (ds : Array Value) : Blk (w.setRow g ds) g t ds := by
  unfold Blk at h ⊢
  simp [World.setRow, Array.getElem?_modify, h]
/-- A number goes into its place. -/
theorem wp_put {ops : Array Oper} {rest : List Oper} {o : Oper} {a : Act} {Q : Exit → Act → World → Prop} {ty : TypeId} (x y : Operand) {w : World} {g : Nat} {t : TypeId} {old cs : Array Value} (hb : Blk w g t old)
    (hgd : o.guard = none) (ho : o.op = .store ty x y) (hx : a.eval x = .pointer (some ⟨g, 0, none⟩)) (hy : a.eval y = .agg cs) (hi : (Tryz.prog.info? ty).map (·.size) = some cs.size) (hs : old.size = cs.size) (h1 : cs.toList.all (·.oneCell') = true)
    (K : ∀ w', Blk w' g t cs → w.grownBy w' (some g) → wpList Tryz.prog ops Q rest (a.put o.dst undef) w') : wpList Tryz.prog ops Q (o :: rest) a w :=
  wpList_store_row hgd ty x y ho g cs hx hy t old hb hi hs (by rw [← Array.all_toList]; exact h1) (K _ (hb.row cs) (setRow_grown w g cs))
theorem Blk.both {w : World} {g : Nat} {t : TypeId} {u v : Value} (h : Blk w g t #[u, v]) : w.cell? ⟨g, 0, none⟩ = some u ∧ w.cell? ⟨g, 1, none⟩ = some v ∧ w.frozen? ⟨g, 0, none⟩ = false ∧ w.frozen? ⟨g, 1, none⟩ = false :=
  ⟨(h.cell 0).trans rfl, (h.cell 1).trans rfl, h.frozen 0, h.frozen 1⟩
end Go.Proofs.YtpfhgkielakmoaaGreatDoor

namespace Go.Proofs.YtpfhgkielakmoaaGreatDoor
open Go.RowKit Num

theorem below_trans {w w1 w2 : World} (h : Below w.heap.size w w1) (h2 : Below w1.heap.size w1 w2) : Below w.heap.size w w2 := h.trans (h2.mono h.size)
theorem IB.at_ {w : World} {g : Nat} {n : Bool} {A : Option Addr} {l c t : Nat} (h : g = w.heap.size) : IB (w.alloc (.cells #[.bool n, .slice A l c] t)) g := by subst h; exact IB.new ..
theorem RetI.put {w w1 w2 : World} {e : Ending} {r : R3} {g : Nat} (h : RetI w1 w2 e r) (hb : Below w.heap.size w w1) (hg : w.heap.size ≤ g) (hi : IB w1 g) :
    ∃ A c, e = .returned (.tuple #[iv r.1 A r.2.1.length c, .int .i64 r.2.2]) ∧ (∀ u v, Rd ((w2.setCell ⟨g, 0, none⟩ (.bool u)).setCell ⟨g, 1, none⟩ v) A c r.2.1) ∧ ∀ u v, Below w.heap.size w ((w2.setCell ⟨g, 0, none⟩ u).setCell ⟨g, 1, none⟩ v) := by
  obtain ⟨⟨A, c, rfl, hr⟩, hb2⟩ := h
  exact ⟨A, c, rfl, fun u v => hr.put (hi.below hb2 (Nat.le_refl _)) u v, fun u v => below_put (below_trans hb hb2) hg u v⟩
theorem and_true {a b : Bool} (h1 : a = true) (h2 : b = true) : (a && b) = true := by rw [h1, h2]; rfl

end Go.Proofs.YtpfhgkielakmoaaGreatDoor

set_option linter.unusedSimpArgs false
set_option linter.unusedVariables false
namespace Go.Proofs.YtpfhgkielakmoaaGreatDoor
open Go.RowKit Num

end Go.Proofs.YtpfhgkielakmoaaGreatDoor

namespace Go.Proofs.YtpfhgkielakmoaaGreatDoor
open Go.RowKit Num

end Go.Proofs.YtpfhgkielakmoaaGreatDoor

namespace Go.Proofs.YtpfhgkielakmoaaGreatDoor
open Go.RowKit Num

end Go.Proofs.YtpfhgkielakmoaaGreatDoor

set_option linter.unusedSimpArgs false
set_option linter.unusedVariables false
namespace Go.Proofs.YtpfhgkielakmoaaGreatDoor
open Go.RowKit Num

theorem Rd.inj {w : World} {A : Option Addr} {c d : Nat} {xs ys : List Nat} (h : Rd w A c xs) (h' : Rd w A d ys) (hl : xs.length = ys.length) : xs = ys := by
  refine List.ext_getElem hl (fun i h1 h2 => ?_)
  obtain ⟨b, o, hA, _, hc⟩ := h.at_ (by rintro rfl; simp at h1)
  obtain ⟨b', o', hA', _, hc'⟩ := h'.at_ (by rintro rfl; simp at h2)
  rw [hA] at hA'
  injection hA' with e
  injection e with e1 e2 _
  subst e1 e2
  have e3 := (hc i h1).symm.trans (hc' i h2)
  injection e3 with e3
  injection e3 with _ e3
  exact_mod_cast e3
end Go.Proofs.YtpfhgkielakmoaaGreatDoor

namespace Go.Proofs.YtpfhgkielakmoaaGreatDoor
open Go.RowKit Num

end Go.Proofs.YtpfhgkielakmoaaGreatDoor

namespace Go.Proofs.YtpfhgkielakmoaaGreatDoor
open Go.RowKit Num

end Go.Proofs.YtpfhgkielakmoaaGreatDoor

set_option linter.unusedSimpArgs false
set_option linter.unusedVariables false
namespace Go.Proofs.YtpfhgkielakmoaaGreatDoor
open Go.RowKit Num

end Go.Proofs.YtpfhgkielakmoaaGreatDoor

namespace Go.Proofs.YtpfhgkielakmoaaGreatDoor
open Go.RowKit Num

/-- The whole number of a sign and a number. -/
def zn (n : Bool) (k : Nat) : Int := if n then -(k : Int) else k
end Go.Proofs.YtpfhgkielakmoaaGreatDoor

namespace Go.Proofs.YtpfhgkielakmoaaGreatDoor
open Go.RowKit Num

end Go.Proofs.YtpfhgkielakmoaaGreatDoor

namespace Go.Proofs.YtpfhgkielakmoaaGreatDoor
open Go.RowKit Num

end Go.Proofs.YtpfhgkielakmoaaGreatDoor

namespace Go.Proofs.YtpfhgkielakmoaaGreatDoor
open Go.RowKit Num

end Go.Proofs.YtpfhgkielakmoaaGreatDoor

set_option linter.unusedSimpArgs false
set_option linter.unusedVariables false
namespace Go.Proofs.YtpfhgkielakmoaaGreatDoor
open Go.RowKit Num

end Go.Proofs.YtpfhgkielakmoaaGreatDoor

namespace Go.Proofs.YtpfhgkielakmoaaGreatDoor
open Go.RowKit Num

end Go.Proofs.YtpfhgkielakmoaaGreatDoor

set_option linter.unusedSimpArgs false
set_option linter.unusedVariables false
namespace Go.Proofs.YtpfhgkielakmoaaGreatDoor
open Go.RowKit Num

/-- A number in memory. -/
structure El where
  n : Bool
  A : Option Addr
  xs : List Nat
  c : Nat
/-- Block g holds these numbers. -/
def Els (w : World) (g : Nat) (L : List El) : Prop := g < w.heap.size ∧ ∀ i (h : i < L.length), w.cell? ⟨g, i * 2, none⟩ = some (.bool L[i].n) ∧ w.cell? ⟨g, i * 2 + 1, none⟩ = some (.slice L[i].A L[i].xs.length L[i].c) ∧ Rd w L[i].A L[i].c L[i].xs
theorem Els.below {w w' : World} {g : Nat} {L : List El} (h : Els w g L) (hb : Below w.heap.size w w') : Els w' g L :=
  ⟨Nat.lt_of_lt_of_le h.1 hb.size, fun i hi => ⟨(hb.cell (p := ⟨g, i * 2, none⟩) h.1).trans (h.2 i hi).1, (hb.cell (p := ⟨g, i * 2 + 1, none⟩) h.1).trans (h.2 i hi).2.1, (h.2 i hi).2.2.below hb (Nat.le_refl _)⟩⟩
end Go.Proofs.YtpfhgkielakmoaaGreatDoor

namespace Go.Proofs.YtpfhgkielakmoaaGreatDoor
open Go.RowKit Num

end Go.Proofs.YtpfhgkielakmoaaGreatDoor

namespace Go.Proofs.YtpfhgkielakmoaaGreatDoor
open Go.RowKit Num

structure Mem (w0 w : World) (Ks : List (Nat × TypeId × Array Value)) (Rs : List (Option Addr × Nat × List Nat)) : Prop where
  bel : Below w0.heap.size w0 w
  ks : ∀ k ∈ Ks, Blk w k.1 k.2.1 k.2.2
  rs : ∀ r ∈ Rs, Rd w r.1 r.2.1 r.2.2
variable {w0 w w' : World} {Ks : List (Nat × TypeId × Array Value)} {Rs : List (Option Addr × Nat × List Nat)}
theorem Mem.start (w : World) : Mem w w [] [] := ⟨Below.refl _ _, fun _ h => by simp at h, fun _ h => by simp at h⟩
theorem Mem.below (h : Mem w0 w Ks Rs) (q : Below w.heap.size w w') : Mem w0 w' Ks Rs :=
  ⟨below_trans h.bel q, fun k hk => (h.ks k hk).below q (Nat.le_refl _), fun r hr => (h.rs r hr).below q (Nat.le_refl _)⟩
theorem Mem.drew (h : Mem w0 w Ks Rs) : Mem w0 w.drew Ks Rs := ⟨h.bel.trans ((Read.refl w).drew.below _), fun k hk => (h.ks k hk).drew, fun r hr => (h.rs r hr).drew⟩
theorem Mem.drewN (h : Mem w0 w Ks Rs) (n : Nat) : Mem w0 (w.drewN n) Ks Rs := ⟨h.bel.trans ((Read.refl w).drewN n |>.below _), fun k hk => (h.ks k hk).drewN n, fun r hr => (h.rs r hr).drewN n⟩
theorem Mem.alloc (h : Mem w0 w Ks Rs) (o : Obj) : Mem w0 (w.alloc o) Ks Rs := h.below (below_alloc1 w o)
theorem Mem.k (h : Mem w0 w Ks Rs) {i : Nat} {g : Nat} {t : TypeId} {cs : Array Value} (hi : Ks[i]? = some (g, t, cs)) : Blk w g t cs := h.ks _ (List.mem_of_getElem? hi)
theorem Mem.r (h : Mem w0 w Ks Rs) {i : Nat} {A : Option Addr} {c : Nat} {xs : List Nat} (hi : Rs[i]? = some (A, c, xs)) : Rd w A c xs := h.rs _ (List.mem_of_getElem? hi)
theorem Mem.addK (h : Mem w0 w Ks Rs) {g : Nat} {t : TypeId} {cs : Array Value} (hb : Blk w g t cs) : Mem w0 w ((g, t, cs) :: Ks) Rs :=
  ⟨h.bel, fun k hk => by
    rcases List.mem_cons.1 hk with rfl | hk
    · exact hb
    · exact h.ks k hk, h.rs⟩
theorem Mem.new (h : Mem w0 w Ks Rs) (t : TypeId) (cs : Array Value) : Mem w0 (w.alloc (.cells cs t)) ((w.heap.size, t, cs) :: Ks) Rs := (h.alloc _).addK (Blk.new w t cs)
theorem Mem.newAt (h : Mem w0 w Ks Rs) {g : Nat} (hg : g = w.heap.size) (t : TypeId) (cs : Array Value) : Mem w0 (w.alloc (.cells cs t)) ((g, t, cs) :: Ks) Rs := by subst hg; exact h.new t cs
/-- The head block of a number is written anew. -/
theorem Mem.put {g : Nat} {t : TypeId} {n : Bool} {A : Option Addr} {l c : Nat} (h : Mem w0 w ((g, t, #[.bool n, .slice A l c]) :: Ks) Rs) (hg : w0.heap.size ≤ g) (hne : ∀ k ∈ Ks, k.1 ≠ g) (m : Bool) (B : Option Addr) (k d : Nat) :
    Mem w0 ((w.setCell ⟨g, 0, none⟩ (.bool m)).setCell ⟨g, 1, none⟩ (.slice B k d)) ((g, t, #[.bool m, .slice B k d]) :: Ks) Rs :=
  ⟨below_put h.bel hg _ _, fun x hx => by
    rcases List.mem_cons.1 hx with rfl | hx
    · exact (h.k (i := 0) rfl).put _ _
    · exact (h.ks x (List.mem_cons_of_mem _ hx)).away (hne x hx) _ _, fun r hr => (h.rs r hr).put (h.k (i := 0) rfl).ib m _⟩
theorem Mem.lt (h : Mem w0 w Ks Rs) : ∀ k ∈ Ks, k.1 < w.heap.size := fun k hk => (h.ks k hk).lt
end Go.Proofs.YtpfhgkielakmoaaGreatDoor

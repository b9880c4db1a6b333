/-
  The laws of tokens: alive; LexSplits, LexJoins.
-/
import Derived.Test.YtpfhgkielakmoaaDoorTm
import Derived.Test.YtpfhgkielakmoaaDoorTn
import Derived.KernelRfl
set_option linter.unusedSimpArgs false
set_option linter.unusedVariables false
namespace Go.Proofs.YtpfhgkielakmoaaDoor
open Go.RowKit Num

theorem RdT.take {w : World} {A : Option Addr} {c : Nat} {l : List Tok} (h : RdT w A c l) (n : Nat) : RdT w A c (l.take n) := by
  refine ⟨Nat.le_trans (List.length_take_le' n l) h.room, h.cap, fun hn => ?_⟩
  obtain ⟨b, o, hA, hlt, hc⟩ := h.at_ (by rintro rfl; simp at hn)
  refine ⟨b, o, hA, hlt, fun j hj => ?_⟩
  have hj2 : j < l.length := by rw [List.length_take] at hj; omega
  rw [show (l.take n)[j] = l[j] from List.getElem_take]
  exact hc j hj2
theorem RetTok.rd {ty : TypeId} {w w' : World} {e : Ending} {r : List Tok × Nat × Int} (h : RetTok ty w w' e r) :
    ∃ A c, e = .returned (.tuple #[.slice A r.1.length c, .int .i64 (r.2.1 : Nat), .int .i64 r.2.2]) ∧ RdT w' A c r.1 ∧ Below w.heap.size w w' := by
  obtain ⟨⟨v, he, ho⟩, hb⟩ := h
  obtain ⟨A, c, rfl, hr⟩ := ho.rd
  exact ⟨A, c, he, hr, hb⟩
theorem splitB_len (n : Nat) : ∀ (k : Nat) (l : List UInt8) (acc : List Tok), l.length ≤ k → (splitB n l acc).1.length ≤ acc.length + l.length := by
  intro k
  induction k with
  | zero =>
    intro l acc hl
    obtain rfl : l = [] := List.length_eq_zero_iff.1 (by omega)
    rw [splitB_nil]
    exact Nat.le_add_right _ _
  | succ k ih =>
    intro l acc hl
    by_cases h0 : l = []
    · subst h0
      rw [splitB_nil]
      exact Nat.le_add_right _ _
    · by_cases ha : acc.length = 4096
      · rw [splitB, if_neg h0, if_pos ha]
        exact Nat.zero_le _
      · rw [splitB_cons h0 ha]
        by_cases hw : (wordL l).1 = 0
        · rw [if_pos hw]
          exact Nat.zero_le _
        · rw [if_neg hw]
          have h1 := wordL_pos hw
          have h2 := blankL_le (l.drop (wordL l).2)
          rw [List.length_drop] at h2
          split
          · refine Nat.le_trans (ih _ _ (by omega)) ?_
            rw [List.length_append, List.length_singleton]
            omega
          · exact Nat.zero_le _
theorem splitR_len (l : List UInt8) : (splitR l).1.length ≤ 8192 := by
  unfold splitR
  split
  · exact Nat.zero_le _
  · have h1 := splitB_len l.length _ (blankL l) [] (Nat.le_refl _)
    have h2 := blankL_le l
    simp at h1
    omega
def aA : ByteArray := ⟨#[118, 97, 114, 32, 49, 46, 46, 53, 58, 32, 120, 59, 32, 37, 32, 97]⟩
def aB : ByteArray := ⟨#[120, 32, 45, 32, 49]⟩
def tokA : List Tok := [⟨1, [118, 97, 114], 0, 0⟩, ⟨2, [49], 1, 4⟩, ⟨3, [46, 46], 0, 5⟩, ⟨2, [53], 5, 7⟩, ⟨3, [58], 0, 8⟩, ⟨1, [120], 0, 10⟩, ⟨3, [59], 0, 11⟩]
theorem split_aA : splitR aA.data.toList = (tokA, 0, 0) := by kernel_rfl
theorem split_aB : splitR aB.data.toList = ([], 2, 5) := by kernel_rfl
theorem splitA (w : World) (hE : ErrVars w) : Calls Tryd.prog 9 #[.string aA] w fun e w' => ∃ A c, e = .returned (.tuple #[.slice A 7 c, .int .i64 0, .int .i64 0]) ∧ RdT w' A c tokA ∧ Below w.heap.size w w' :=
  (split_any aA w hE).mono fun e w' h => by
    rw [split_aA] at h
    exact h.rd
theorem splitB' (w : World) (hE : ErrVars w) : Calls Tryd.prog 9 #[.string aB] w fun e w' => ∃ A c, e = .returned (.tuple #[.slice A 0 c, .int .i64 2, .int .i64 5]) ∧ Below w.heap.size w w' :=
  (split_any aB w hE).mono fun e w' h => by
    rw [split_aB] at h
    obtain ⟨A, c, h1, _, h2⟩ := h.rd
    exact ⟨A, c, h1, h2⟩
end Go.Proofs.YtpfhgkielakmoaaDoor

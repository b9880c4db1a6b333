/-
  Contracts of the document's fractions: made, opposites, rounding, texts, sameness.
-/
import Derived.Test.YtlmgdhdakeekkaaQf
set_option linter.unusedSimpArgs false
set_option linter.unusedVariables false
namespace Go.Proofs.Ytlmgdhdakeekkaa
open Go.RowKit Num

def sameB (n : Bool) (xs : List Nat) (m : Bool) (ys : List Nat) : Bool := (n == m) && decide (xs = ys)
set_option maxRecDepth 100000 in
set_option maxHeartbeats 1000000 in
theorem rqsame_any {n m n' m' : Bool} {A B A' B' : Option Addr} {c d c' d' : Nat} {xs ys xs' ys' : List Nat} {w : World} (ha : Rd w A c xs) (hb : Rd w B d ys) (ha' : Rd w A' c' xs') (hb' : Rd w B' d' ys')
    (l1 : xs.length ≤ 1000000) (l2 : ys.length ≤ 1000000) (l3 : xs'.length ≤ 1000000) (l4 : ys'.length ≤ 1000000) :
    Calls Try.prog 14 #[rv n A xs.length c m B ys.length d, rv n' A' xs'.length c' m' B' ys'.length d'] w fun e w' => e = .returned (.bool (sameB n xs n' xs' && sameB m ys m' ys')) ∧ Below w.heap.size w w' := by
  have M : Mem w ((w.alloc (.cells #[.bool n, .slice A xs.length c, .bool m, .slice B ys.length d] 26)).alloc (.cells #[.bool n', .slice A' xs'.length c', .bool m', .slice B' ys'.length d'] 26)) [(w.heap.size + 1, 26, #[.bool n', .slice A' xs'.length c', .bool m', .slice B' ys'.length d']), (w.heap.size, 26, #[.bool n, .slice A xs.length c, .bool m, .slice B ys.length d])] [(B', d', ys'), (A', c', xs'), (B, d, ys), (A, c, xs)] :=
    (((((((Mem.start w).addR ha).addR hb).addR ha').addR hb').new 26 #[.bool n, .slice A xs.length c, .bool m, .slice B ys.length d]).newAt (by simp) 26 #[.bool n', .slice A' xs'.length c', .bool m', .slice B' ys'.length d'])
  have ox := ha.ok
  have oy := hb.ok
  have ox' := ha'.ok
  have oy' := hb'.ok
  clear ha hb ha' hb'
  obtain ⟨v1, v2, v3, v4⟩ := (M.k (i := 1) rfl).four
  obtain ⟨v5, v6, v7, v8⟩ := (M.k (i := 0) rfl).four
  have hs1 : ((n == n') && decide (xs = xs')) = sameB n xs n' xs' := rfl
  have hs2 : ((m == m') && decide (ys = ys')) = sameB m ys m' ys' := rfl
  have HS1 := Lib.hid hs1
  have HS2 := Lib.hid hs2
  clear hs1 hs2 ox oy ox' oy'
  generalize sameB n xs n' xs' = b1 at *
  generalize sameB m ys m' ys' = b2 at *
  cases b1
  all_goals
    go_enter Try.func14, Try.ntmps14
    go_wp2_with fail
    refine (rssame_any _ _ A A' c c' _ _ _ (M.r (i := 3) rfl) (M.r (i := 1) rfl) l1 l3).mono ?_
    rw [HS1.out]
    rintro e w2 ⟨rfl, q⟩
    replace M := M.below q
    clear q v1 v2 v3 v4 v5 v6 v7 v8
    obtain ⟨v1, v2, v3, v4⟩ := (M.k (i := 1) rfl).four
    obtain ⟨v5, v6, v7, v8⟩ := (M.k (i := 0) rfl).four
  · go_wp2
    go_ret
    exact ⟨by simp, M.bel⟩
  · go_wp2_with fail
    refine (rssame_any _ _ B B' d d' _ _ _ (M.r (i := 2) rfl) (M.r (i := 0) rfl) l2 l4).mono ?_
    rw [HS2.out]
    rintro e w3 ⟨rfl, q⟩
    replace M := M.below q
    go_wp2
    go_ret
    exact ⟨by simp, M.bel⟩
theorem rqsame_self {n m : Bool} {A B A' B' : Option Addr} {c d c' d' : Nat} {xs ys : List Nat} {w : World} (ha : Rd w A c xs) (hb : Rd w B d ys) (ha' : Rd w A' c' xs) (hb' : Rd w B' d' ys) (l1 : xs.length ≤ 1000000) (l2 : ys.length ≤ 1000000) :
    Calls Try.prog 14 #[rv n A xs.length c m B ys.length d, rv n A' xs.length c' m B' ys.length d'] w fun e w' => e = .returned (.bool true) ∧ Below w.heap.size w w' :=
  (rqsame_any ha hb ha' hb' l1 l2 l1 l2).mono fun _ _ ⟨h1, h2⟩ => ⟨by rw [h1]; simp [sameB], h2⟩
end Go.Proofs.Ytlmgdhdakeekkaa

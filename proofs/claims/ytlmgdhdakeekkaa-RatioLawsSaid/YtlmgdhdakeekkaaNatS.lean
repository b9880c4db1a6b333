/-
  Contract of nat.Parse.
-/
import Derived.Test.YtlmgdhdakeekkaaNatP
import Derived.Test.YtlmgdhdakeekkaaParP
import Derived.Lib.RabinKarpLaws
import Derived.Lib.Strings
namespace Go.Proofs.Ytlmgdhdakeekkaa
open Go.RowKit Num

def parseR (l : List UInt8) : List Nat × Int := if formB l then (if l.length ≤ 2000 then fitR (numOf l) else ([], 3)) else ([], 5)
theorem parseR_form {l : List UInt8} (h : formB l = false) : parseR l = ([], 5) := by unfold parseR; rw [h]; rfl
theorem formB_empty : formB [] = false := by simp [formB]
theorem formB_zero {l : List UInt8} (h1 : 1 < l.length) (h2 : l.head? = some 48) : formB l = false := decide_eq_false (fun h => h.2.1 ⟨h1, h2⟩)
theorem formB_bad {l : List UInt8} {k : Nat} {c : UInt8} (h1 : l[k]? = some c) (h2 : ¬ (48 ≤ c.toNat ∧ c.toNat ≤ 57)) : formB l = false :=
  decide_eq_false (fun h => h2 (isD_iff (h.2.2 c (List.mem_of_getElem? h1))))
theorem formB_good {l : List UInt8} (h1 : l ≠ []) (h2 : ¬ (1 < l.length ∧ l.head? = some 48)) (h3 : ∀ c ∈ l, isD c = true) : formB l = true := decide_eq_true ⟨h1, h2, h3⟩
theorem parseR_long {l : List UInt8} (h : formB l = true) (h2 : ¬ l.length ≤ 2000) : parseR l = ([], 3) := by unfold parseR; rw [if_pos h, if_neg h2]
theorem parseR_ok {l : List UInt8} (h : formB l = true) (h2 : l.length ≤ 2000) : parseR l = fitR (numOf l) := by unfold parseR; rw [if_pos h, if_pos h2]
theorem numOf_take {l : List UInt8} {k : Nat} {c : UInt8} (h : l[k]? = some c) : numOf (l.take (k + 1)) = 10 * numOf (l.take k) + (c.toNat - 48) := by
  have hk : k < l.length := (List.getElem?_eq_some_iff.1 h).1
  rw [List.take_succ_eq_append_getElem hk, numOf_snoc]
  have := (List.getElem?_eq_some_iff.1 h).2
  rw [this]
theorem digits_take {l : List UInt8} {k : Nat} {c : UInt8} (h : l[k]? = some c) (hc : 48 ≤ c.toNat ∧ c.toNat ≤ 57) (hd : ∀ x ∈ l.take k, isD x = true) : ∀ x ∈ l.take (k + 1), isD x = true := by
  have hk : k < l.length := (List.getElem?_eq_some_iff.1 h).1
  rw [List.take_succ_eq_append_getElem hk]
  intro x hx
  rcases List.mem_append.1 hx with hx | hx
  · exact hd x hx
  · have := (List.getElem?_eq_some_iff.1 h).2
    rw [this] at hx
    have hx' : x = c := by simpa using hx
    subst hx'
    exact decide_eq_true hc

theorem Own.form {w : World} {base : Nat} {v : Value} {xs : List Nat} (h : Own w base v xs) : (v = .slice none 0 0 ∧ xs = []) ∨ ∃ g cap, v = .slice (some ⟨g, 0, none⟩) xs.length cap ∧ base ≤ g := by
  rcases h.2 with ⟨hv, h0⟩ | ⟨g, cap, cur, hv, hg, _⟩
  · exact .inl ⟨hv, List.eq_nil_of_length_eq_zero h0⟩
  · exact .inr ⟨g, cap, hv, hg⟩
theorem Own.set {w : World} {base g cap n : Nat} {xs : List Nat} (h : Own w base (.slice (some ⟨g, 0, none⟩) n cap) xs) (hn : xs.length = n) (j d : Nat) {D : Int} (hD : D = (d : Int)) :
    Own (w.setCell ⟨g, j, none⟩ (.int .u32 D)) base (.slice (some ⟨g, 0, none⟩) n cap) (xs.set j d) := by
  subst hn hD
  have := World.ownsRow.stored h j (dv d)
  unfold Own
  rw [List.length_set, List.map_set]
  exact this.1
theorem Own.cell {w : World} {base g cap n : Nat} {xs : List Nat} (h : Own w base (.slice (some ⟨g, 0, none⟩) n cap) xs) (hn : xs.length = n) {j : Nat} (hj : j < xs.length) :
    w.cell? ⟨g, j, none⟩ = some (.int .u32 xs[j]) ∧ w.frozen? ⟨g, j, none⟩ = false := by
  subst hn
  refine ⟨?_, World.ownsRow.frozenAt h j⟩
  rw [World.ownsRow.cellAt h j (by omega)]
  simp [hj, dv]

theorem nat_pos_or (n : Nat) : n = 0 ∨ 0 < n := Nat.eq_zero_or_pos n



end Go.Proofs.Ytlmgdhdakeekkaa

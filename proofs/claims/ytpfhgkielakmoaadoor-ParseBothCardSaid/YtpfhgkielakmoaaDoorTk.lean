/-
  Rows of tokens that are read; Join.
-/
import Derived.Test.YtpfhgkielakmoaaDoorTj
set_option linter.unusedSimpArgs false
set_option linter.unusedVariables false
namespace Go.Proofs.YtpfhgkielakmoaaDoor
open Go.RowKit Num

/-- A row of tokens that may be read. -/
structure RdT (w : World) (A : Option Addr) (c : Nat) (l : List Tok) : Prop where
  room : l.length ≤ c
  cap : c ≤ maxLen
  at_ : l ≠ [] → ∃ b o, A = some ⟨b, o, none⟩ ∧ b < w.heap.size ∧ ∀ j (h : j < l.length), w.cell? ⟨b, o + j * 4, none⟩ = some (.int .i64 l[j].k) ∧ w.cell? ⟨b, o + j * 4 + 1, none⟩ = some (.string ⟨l[j].t.toArray⟩) ∧ w.cell? ⟨b, o + j * 4 + 2, none⟩ = some (.int .i64 l[j].v) ∧ w.cell? ⟨b, o + j * 4 + 3, none⟩ = some (.int .i64 l[j].at_)
theorem RdT.below {w w' : World} {A : Option Addr} {c : Nat} {l : List Tok} {B : Nat} (h : RdT w A c l) (hb : Below B w w') (hB : w.heap.size ≤ B) : RdT w' A c l :=
  ⟨h.room, h.cap, fun hn => by
    obtain ⟨b, o, hA, hlt, hc⟩ := h.at_ hn
    have hx : ∀ k, w'.cell? ⟨b, k, none⟩ = w.cell? ⟨b, k, none⟩ := fun k => hb.cell (p := ⟨b, k, none⟩) (show b < B by omega)
    refine ⟨b, o, hA, Nat.lt_of_lt_of_le hlt (hb.size), fun j hj => ?_⟩
    simp only [hx]
    exact hc j hj⟩
theorem RdT.nil {w : World} {A : Option Addr} {c : Nat} (h : c ≤ maxLen) : RdT w A c [] := ⟨Nat.zero_le _, h, fun e => absurd rfl e⟩
theorem tcells_at (l : List Tok) (j : Nat) (h : j < l.length) : (tvals l)[j * 4]? = some (.int .i64 l[j].k) ∧ (tvals l)[j * 4 + 1]? = some (.string ⟨l[j].t.toArray⟩) ∧ (tvals l)[j * 4 + 2]? = some (.int .i64 l[j].v) ∧ (tvals l)[j * 4 + 3]? = some (.int .i64 l[j].at_) := by
  induction l generalizing j with
  | nil => cases h
  | cons t l ih =>
    have e : tvals (t :: l) = tcells t ++ tvals l := rfl
    rw [e]
    cases j with
    | zero => exact ⟨rfl, rfl, rfl, rfl⟩
    | succ j =>
      have h2 := ih j (by simpa using h)
      have e4 : (tcells t).length = 4 := rfl
      have hx : ∀ k, (tcells t ++ tvals l)[(j + 1) * 4 + k]? = (tvals l)[j * 4 + k]? := fun k => by
        rw [List.getElem?_append_right (by rw [e4]; omega), e4]
        congr 1
        omega
      have h0 := hx 0
      rw [Nat.add_zero, Nat.add_zero] at h0
      rw [h0, hx 1, hx 2, hx 3]
      exact h2
theorem OwnT.rd {w : World} {base : Nat} {ty : TypeId} {v : Value} {l : List Tok} (h : OwnT w base ty v l) : ∃ A c, v = .slice A l.length c ∧ RdT w A c l := by
  obtain ⟨_, h2⟩ := h
  rcases h2 with ⟨h2, h3⟩ | ⟨g, cap, cur, hv, hg, hb, hn, hc, hs, ht⟩
  · refine ⟨none, 0, by rw [h2, h3], ?_⟩
    rw [List.length_eq_zero_iff.1 h3]
    exact RdT.nil (Nat.zero_le _)
  · refine ⟨_, _, hv, hn, hc, fun _ => ⟨g, 0, rfl, (Array.getElem?_eq_some_iff.1 hb).1, fun j hj => ?_⟩⟩
    have hx : ∀ k, k < 4 → w.cell? ⟨g, 0 + j * 4 + k, none⟩ = (tvals l)[j * 4 + k]? := fun k hk => by
      rw [cell_of_row w g _ cur ty (0, 0) hb, ← ht, List.getElem?_take_of_lt (by omega)]
      simp
    have h0 := hx 0 (by decide)
    rw [Nat.add_zero, Nat.add_zero] at h0
    obtain ⟨t1, t2, t3, t4⟩ := tcells_at l j hj
    exact ⟨h0.trans t1, (hx 1 (by decide)).trans t2, (hx 2 (by decide)).trans t3, (hx 3 (by decide)).trans t4⟩
theorem joinR_snoc (ts : List (List UInt8)) (t : List UInt8) : joinR (ts ++ [t]) = if ts = [] then t else joinR ts ++ 32 :: t := by
  induction ts with
  | nil => rfl
  | cons a ts ih =>
    rw [if_neg (by simp)]
    cases ts with
    | nil => rfl
    | cons b r =>
      rw [if_neg (by simp)] at ih
      have e1 : joinR (a :: (b :: r) ++ [t]) = a ++ 32 :: joinR (b :: r ++ [t]) := rfl
      have e2 : joinR (a :: b :: r) = a ++ 32 :: joinR (b :: r) := rfl
      rw [e1, e2, ih]
      simp
end Go.Proofs.YtpfhgkielakmoaaDoor

/-
  Plain laws of items: all items of a text; two texts; a text of its tokens.
-/
import Derived.Test.YtpfhgkielakmoaaDoorPb
set_option linter.unusedSimpArgs false
set_option linter.unusedVariables false
namespace Go.Proofs.YtpfhgkielakmoaaDoor

inductive Items : List Tok → List It → Prop
  | nil : Items [] []
  | cons {c : List Tok} {t : Tok} {r : List Tok} {x : It} {xs : List It} (h1 : itemP (c ++ t :: r) = .ok x (t :: r)) (h2 : t.t = semi) (h3 : ∀ u ∈ c, u.t ≠ semi) (h4 : 7 ≤ wt c) (h5 : Items r xs) : Items (c ++ t :: r) (x :: xs)
theorem take_semi {l : List Tok} {x : Unit} {r : List Tok} (h : takeP [59] l = .ok x r) : ∃ t, l = t :: r ∧ t.t = semi := by
  cases l with
  | nil => cases h
  | cons t l =>
    have h' : (if (t.t == [59]) = true then PR.ok () l else wrongP (t :: l)) = .ok x r := h
    split at h'
    · rename_i ht
      injection h' with _ h2
      exact ⟨t, by rw [h2], eq_of_beq ht⟩
    · cases h'
theorem allGo_nil (k : Nat) (acc : List It) : allGo k acc [] = .ok acc [] := by cases k <;> rfl
theorem allGo_cons (k : Nat) (acc : List It) (t : Tok) (l : List Tok) : allGo (k + 1) acc (t :: l) = pbind itemP (fun x => pbind (takeP [59]) fun _ => allGo k (acc ++ [x])) (t :: l) := rfl
theorem allGo_zero (acc : List It) (t : Tok) (l : List Tok) : allGo 0 acc (t :: l) = .bad 3 (t :: l) := rfl
theorem allGo_items : ∀ (k : Nat) (acc : List It) (l : List Tok), WT l → ∀ ys r, allGo k acc l = .ok ys r → ∃ xs, ys = acc ++ xs ∧ Items l xs ∧ xs.length ≤ k := by
  intro k
  induction k with
  | zero =>
    intro acc l hl ys r h
    cases l with
    | nil =>
      rw [allGo_nil] at h
      injection h with h1 h2
      exact ⟨[], by rw [h1, List.append_nil], .nil, Nat.zero_le _⟩
    | cons t l => cases h
  | succ k ih =>
    intro acc l hl ys r h
    cases l with
    | nil =>
      rw [allGo_nil] at h
      injection h with h1 h2
      exact ⟨[], by rw [h1, List.append_nil], .nil, Nat.zero_le _⟩
    | cons t l =>
      rw [allGo_cons] at h
      unfold pbind at h
      cases hx : itemP (t :: l) with
      | bad e s => rw [hx] at h; cases h
      | ok x s =>
        rw [hx] at h
        dsimp only at h
        cases hy : takeP [59] s with
        | bad e s' => rw [hy] at h; cases h
        | ok y s' =>
          rw [hy] at h
          dsimp only at h
          obtain ⟨u, rfl, hu⟩ := take_semi hy
          obtain ⟨⟨c, h1, h2, h3⟩, _⟩ := nice_item.run _ hl _ _ hx
          rw [h1] at hx hl ⊢
          have hl2 : WT s' := fun t ht => hl t (List.mem_append_right _ (List.mem_cons_of_mem _ ht))
          obtain ⟨xs, k1, k2, k3⟩ := ih _ s' hl2 ys r h
          exact ⟨x :: xs, by rw [k1, List.append_assoc]; rfl, .cons hx hu h2 h3 k2, Nat.succ_le_succ k3⟩
theorem items_allGo {l : List Tok} {xs : List It} (h : Items l xs) : ∀ (k : Nat) (acc : List It), xs.length ≤ k → allGo k acc l = .ok (acc ++ xs) [] := by
  induction h with
  | nil =>
    intro k acc _
    rw [allGo_nil, List.append_nil]
  | @cons c t r x xs h1 h2 h3 h4 h5 ih =>
    intro k acc hk
    cases k with
    | zero => cases hk
    | succ k =>
      have hc : ∃ u v, c ++ t :: r = u :: v := by cases c <;> exact ⟨_, _, rfl⟩
      obtain ⟨u, v, huv⟩ := hc
      rw [huv, allGo_cons, ← huv]
      unfold pbind
      rw [h1]
      have ht : takeP [59] (t :: r) = .ok () r := by
        show (if (t.t == [59]) = true then _ else _) = _
        rw [if_pos (by rw [h2]; rfl)]
        rfl
      dsimp only
      rw [ht]
      dsimp only
      rw [ih k _ (Nat.le_of_succ_le_succ hk), List.append_assoc]
      rfl
theorem items_append {a b : List Tok} {xs ys : List It} (h : Items a xs) (hb : Items b ys) (hw : WT a) : Items (a ++ b) (xs ++ ys) := by
  induction h with
  | nil => exact hb
  | @cons c t r x xs h1 h2 h3 h4 h5 ih =>
    have hr : WT r := fun u hu => hw u (List.mem_append_right _ (List.mem_cons_of_mem _ hu))
    have e := (nice_item.run _ hw _ _ h1).2 (by simp) b
    rw [List.append_assoc, List.cons_append] at e ⊢
    exact .cons e h2 h3 h4 (ih hr)
theorem items_wt {l : List Tok} {xs : List It} (h : Items l xs) : 8 * xs.length ≤ wt l := by
  induction h with
  | nil => exact Nat.zero_le _
  | @cons c t r x xs h1 h2 h3 h4 h5 ih =>
    rw [wt_append, wt_cons, h2, List.length_cons]
    have : semi.length = 1 := rfl
    omega
theorem Al.trans_ok {α : Type} {f : PR α} {x : α} {r : List Tok} {g : PR α} (h : Al f g) (hf : f = .ok x r) : ∃ s, g = .ok x s ∧ r.map stripT = s.map stripT := by
  subst hf
  cases g with
  | ok y s =>
    obtain ⟨rfl, h2⟩ := h
    exact ⟨s, rfl, h2⟩
  | bad e s => exact h.elim
theorem allGo_alike : ∀ (k : Nat) (acc : List It) (l m : List Tok), l.map stripT = m.map stripT → Al (allGo k acc l) (allGo k acc m) := by
  intro k
  induction k with
  | zero =>
    intro acc l m h
    cases l with
    | nil => cases m with
      | nil => exact ⟨rfl, rfl⟩
      | cons u m => cases h
    | cons t l => cases m with
      | nil => cases h
      | cons u m => exact ⟨rfl, h⟩
  | succ k ih =>
    intro acc l m h
    cases l with
    | nil => cases m with
      | nil => exact ⟨rfl, rfl⟩
      | cons u m => cases h
    | cons t l => cases m with
      | nil => cases h
      | cons u m =>
        rw [allGo_cons, allGo_cons]
        have h1 := nice_item.alike _ _ h
        unfold pbind
        cases hx : itemP (t :: l) with
        | bad e s =>
          cases hy : itemP (u :: m) with
          | bad e' s' => rw [hx, hy] at h1; exact h1
          | ok y s' => rw [hx, hy] at h1; exact h1.elim
        | ok x s =>
          cases hy : itemP (u :: m) with
          | bad e' s' => rw [hx, hy] at h1; exact h1.elim
          | ok y s' =>
            rw [hx, hy] at h1
            obtain ⟨rfl, h2⟩ := h1
            dsimp only
            cases s with
            | nil => cases s' with
              | nil => exact ⟨rfl, rfl⟩
              | cons v s' => cases h2
            | cons w s => cases s' with
              | nil => cases h2
              | cons v s' =>
                obtain ⟨h3, h4⟩ := List.cons.inj h2
                have e : ∀ (z : Tok) (q : List Tok), takeP [59] (z :: q) = if (z.t == [59]) = true then .ok () q else .bad 5 (z :: q) := fun z q => rfl
                rw [e, e, (strip_eq h3).2.1]
                by_cases hv : (v.t == [59]) = true
                · rw [if_pos hv, if_pos hv]
                  exact ih _ _ _ h4
                · rw [if_neg hv, if_neg hv]
                  exact ⟨rfl, h2⟩
theorem allGo_bad : ∀ (k : Nat) (acc : List It) (l : List Tok) (e : Int) (r : List Tok), allGo k acc l = .bad e r → (∃ c, l = c ++ r) ∧ e ≠ 0 := by
  intro k
  induction k with
  | zero =>
    intro acc l e r h
    cases l with
    | nil => cases h
    | cons t l =>
      injection h with h1 h2
      subst h1 h2
      exact ⟨⟨[], rfl⟩, by decide⟩
  | succ k ih =>
    intro acc l e r h
    cases l with
    | nil => cases h
    | cons t l =>
      rw [allGo_cons] at h
      unfold pbind at h
      cases hx : itemP (t :: l) with
      | bad e' s =>
        rw [hx] at h
        injection h with h1 h2
        subst h1 h2
        exact nice_item.bad _ _ _ hx
      | ok x s =>
        rw [hx] at h
        dsimp only at h
        obtain ⟨c, hc⟩ := nice_item.suf _ _ _ hx
        cases hy : takeP [59] s with
        | bad e' s' =>
          rw [hy] at h
          injection h with h1 h2
          subst h1 h2
          cases s with
          | nil =>
            injection hy with h3 h4
            subst h3 h4
            exact ⟨⟨c, hc⟩, by decide⟩
          | cons w s =>
            have hy' : (if (w.t == [59]) = true then PR.ok () s else .bad 5 (w :: s)) = .bad e' s' := hy
            split at hy'
            · cases hy'
            · injection hy' with h3 h4
              subst h3 h4
              exact ⟨⟨c, hc⟩, by decide⟩
        | ok y s' =>
          rw [hy] at h
          dsimp only at h
          obtain ⟨u, rfl, hu⟩ := take_semi hy
          obtain ⟨⟨d, h1⟩, h2⟩ := ih _ _ _ _ h
          exact ⟨⟨c ++ u :: d, by rw [hc, h1, List.append_assoc]; rfl⟩, h2⟩
/-- What Split tells of tokens. -/
def TokW (t : Tok) : Prop := t.t ≠ [] ∧ (t.t = semi → t.k = 3)
theorem word_semi {l : List UInt8} (h : (wordL l).1 ≠ 0) : l.take (wordL l).2 ≠ [] ∧ (l.take (wordL l).2 = semi → (wordL l).1 = 3) := by
  have h1 := wordL_pos h
  refine ⟨fun e => ?_, fun e => ?_⟩
  · have := congrArg List.length e
    rw [List.length_take, List.length_nil] at this
    omega
  · cases l with
    | nil => exact absurd rfl h
    | cons c r =>
      have hc : c = 59 := by
        have h2 : 0 < (wordL (c :: r)).2 := h1.1
        obtain ⟨k, hk⟩ : ∃ k, (wordL (c :: r)).2 = k + 1 := ⟨(wordL (c :: r)).2 - 1, by omega⟩
        rw [hk, List.take_succ_cons] at e
        injection e
      subst hc
      rfl
theorem splitB_tokW (n : Nat) : ∀ (k : Nat) (l : List UInt8) (acc : List Tok), l.length ≤ k → (∀ t ∈ acc, TokW t) → ∀ t ∈ (splitB n l acc).1, TokW t := by
  intro k
  induction k with
  | zero =>
    intro l acc hl ha
    obtain rfl : l = [] := List.length_eq_zero_iff.1 (by omega)
    rw [splitB_nil]
    exact ha
  | succ k ih =>
    intro l acc hl ha
    by_cases h0 : l = []
    · subst h0
      rw [splitB_nil]
      exact ha
    · by_cases hacc : acc.length = 4096
      · rw [splitB, if_neg h0, if_pos hacc]
        intro t ht
        cases ht
      · rw [splitB_cons h0 hacc]
        by_cases hw : (wordL l).1 = 0
        · rw [if_pos hw]
          intro t ht
          cases ht
        · rw [if_neg hw]
          have h1 := wordL_pos hw
          have h2 := blankL_le (l.drop (wordL l).2)
          rw [List.length_drop] at h2
          split
          · refine ih _ _ (by omega) (fun t ht => ?_)
            rcases List.mem_append.1 ht with ht | ht
            · exact ha t ht
            · obtain rfl := List.mem_singleton.1 ht
              exact word_semi hw
          · intro t ht
            cases ht
theorem splitR_wt (l : List UInt8) : WT (splitR l).1 := by
  unfold splitR
  split
  · intro t ht
    cases ht
  · exact splitB_tokW _ _ _ [] (Nat.le_refl _) (fun t ht => by cases ht)
end Go.Proofs.YtpfhgkielakmoaaDoor

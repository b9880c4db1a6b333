/-
  Joined texts: Pc, Pd.
-/
import Derived.Test.YtpfhgkielakmoaaGreatDoorPb
/-
  Plain laws of items: all items of a text; two texts; a text of its tokens.
-/
set_option linter.unusedSimpArgs false
set_option linter.unusedVariables false
namespace Go.Proofs.YtpfhgkielakmoaaGreatDoor

inductive Items : List Tok → List It → Prop
  | nil : Items [] []
  | cons {c : List Tok} {t : Tok} {r : List Tok} {x : It} {xs : List It} (h1 : itemP (c ++ t :: r) = .ok x (t :: r)) (h2 : t.t = semi) (h3 : ∀ u ∈ c, u.t ≠ semi) (h4 : 7 ≤ wt c) (h5 : Items r xs) : Items (c ++ t :: r) (x :: xs)
theorem take_semi {l : List Tok} {x : Unit} {r : List Tok} (h : takeP [59] l = .ok x r) : ∃ t, l = t :: r ∧ t.t = semi := by
  cases l with
  | nil => cases h
  | cons t l =>
    have h' : (if (t.t == [59]) = true then PR.ok () l else wrongP (t :: l)) = .ok x r := h
    split at h'
    · rename_i ht
      injection h' with _ h2
      exact ⟨t, by rw [h2], eq_of_beq ht⟩
    · cases h'
theorem allGo_nil (k : Nat) (acc : List It) : allGo k acc [] = .ok acc [] := by cases k <;> rfl
theorem allGo_cons (k : Nat) (acc : List It) (t : Tok) (l : List Tok) : allGo (k + 1) acc (t :: l) = pbind itemP (fun x => pbind (takeP [59]) fun _ => allGo k (acc ++ [x])) (t :: l) := rfl
theorem allGo_items : ∀ (k : Nat) (acc : List It) (l : List Tok), WT l → ∀ ys r, allGo k acc l = .ok ys r → ∃ xs, ys = acc ++ xs ∧ Items l xs ∧ xs.length ≤ k := by
  intro k
  induction k with
  | zero =>
    intro acc l hl ys r h
    cases l with
    | nil =>
      rw [allGo_nil] at h
      injection h with h1 h2
      exact ⟨[], by rw [h1, List.append_nil], .nil, Nat.zero_le _⟩
    | cons t l => cases h
  | succ k ih =>
    intro acc l hl ys r h
    cases l with
    | nil =>
      rw [allGo_nil] at h
      injection h with h1 h2
      exact ⟨[], by rw [h1, List.append_nil], .nil, Nat.zero_le _⟩
    | cons t l =>
      rw [allGo_cons] at h
      unfold pbind at h
      cases hx : itemP (t :: l) with
      | bad e s => rw [hx] at h; cases h
      | ok x s =>
        rw [hx] at h
        dsimp only at h
        cases hy : takeP [59] s with
        | bad e s' => rw [hy] at h; cases h
        | ok y s' =>
          rw [hy] at h
          dsimp only at h
          obtain ⟨u, rfl, hu⟩ := take_semi hy
          obtain ⟨⟨c, h1, h2, h3⟩, _⟩ := nice_item.run _ hl _ _ hx
          rw [h1] at hx hl ⊢
          have hl2 : WT s' := fun t ht => hl t (List.mem_append_right _ (List.mem_cons_of_mem _ ht))
          obtain ⟨xs, k1, k2, k3⟩ := ih _ s' hl2 ys r h
          exact ⟨x :: xs, by rw [k1, List.append_assoc]; rfl, .cons hx hu h2 h3 k2, Nat.succ_le_succ k3⟩
theorem allGo_alike : ∀ (k : Nat) (acc : List It) (l m : List Tok), l.map stripT = m.map stripT → Al (allGo k acc l) (allGo k acc m) := by
  intro k
  induction k with
  | zero =>
    intro acc l m h
    cases l with
    | nil => cases m with
      | nil => exact ⟨rfl, rfl⟩
      | cons u m => cases h
    | cons t l => cases m with
      | nil => cases h
      | cons u m => exact ⟨rfl, h⟩
  | succ k ih =>
    intro acc l m h
    cases l with
    | nil => cases m with
      | nil => exact ⟨rfl, rfl⟩
      | cons u m => cases h
    | cons t l => cases m with
      | nil => cases h
      | cons u m =>
        rw [allGo_cons, allGo_cons]
        have h1 := nice_item.alike _ _ h
        unfold pbind
        cases hx : itemP (t :: l) with
        | bad e s =>
          cases hy : itemP (u :: m) with
          | bad e' s' => rw [hx, hy] at h1; exact h1
          | ok y s' => rw [hx, hy] at h1; exact h1.elim
        | ok x s =>
          cases hy : itemP (u :: m) with
          | bad e' s' => rw [hx, hy] at h1; exact h1.elim
          | ok y s' =>
            rw [hx, hy] at h1
            obtain ⟨rfl, h2⟩ := h1
            dsimp only
            cases s with
            | nil => cases s' with
              | nil => exact ⟨rfl, rfl⟩
              | cons v s' => cases h2
            | cons w s => cases s' with
              | nil => cases h2
              | cons v s' =>
                obtain ⟨h3, h4⟩ := List.cons.inj h2
                have e : ∀ (z : Tok) (q : List Tok), takeP [59] (z :: q) = if (z.t == [59]) = true then .ok () q else .bad 5 (z :: q) := fun z q => rfl
                rw [e, e, (strip_eq h3).2.1]
                by_cases hv : (v.t == [59]) = true
                · rw [if_pos hv, if_pos hv]
                  exact ih _ _ _ h4
                · rw [if_neg hv, if_neg hv]
                  exact ⟨rfl, h2⟩
theorem allGo_bad : ∀ (k : Nat) (acc : List It) (l : List Tok) (e : Int) (r : List Tok), allGo k acc l = .bad e r → (∃ c, l = c ++ r) ∧ e ≠ 0 := by
  intro k
  induction k with
  | zero =>
    intro acc l e r h
    cases l with
    | nil => cases h
    | cons t l =>
      injection h with h1 h2
      subst h1 h2
      exact ⟨⟨[], rfl⟩, by decide⟩
  | succ k ih =>
    intro acc l e r h
    cases l with
    | nil => cases h
    | cons t l =>
      rw [allGo_cons] at h
      unfold pbind at h
      cases hx : itemP (t :: l) with
      | bad e' s =>
        rw [hx] at h
        injection h with h1 h2
        subst h1 h2
        exact nice_item.bad _ _ _ hx
      | ok x s =>
        rw [hx] at h
        dsimp only at h
        obtain ⟨c, hc⟩ := nice_item.suf _ _ _ hx
        cases hy : takeP [59] s with
        | bad e' s' =>
          rw [hy] at h
          injection h with h1 h2
          subst h1 h2
          cases s with
          | nil =>
            injection hy with h3 h4
            subst h3 h4
            exact ⟨⟨c, hc⟩, by decide⟩
          | cons w s =>
            have hy' : (if (w.t == [59]) = true then PR.ok () s else .bad 5 (w :: s)) = .bad e' s' := hy
            split at hy'
            · cases hy'
            · injection hy' with h3 h4
              subst h3 h4
              exact ⟨⟨c, hc⟩, by decide⟩
        | ok y s' =>
          rw [hy] at h
          dsimp only at h
          obtain ⟨u, rfl, hu⟩ := take_semi hy
          obtain ⟨⟨d, h1⟩, h2⟩ := ih _ _ _ _ h
          exact ⟨⟨c ++ u :: d, by rw [hc, h1, List.append_assoc]; rfl⟩, h2⟩
/-- What Split tells of tokens. -/
def TokW (t : Tok) : Prop := t.t ≠ [] ∧ (t.t = semi → t.k = 3)
theorem word_semi {l : List UInt8} (h : (wordL l).1 ≠ 0) : l.take (wordL l).2 ≠ [] ∧ (l.take (wordL l).2 = semi → (wordL l).1 = 3) := by
  have h1 := wordL_pos h
  refine ⟨fun e => ?_, fun e => ?_⟩
  · have := congrArg List.length e
    rw [List.length_take, List.length_nil] at this
    omega
  · cases l with
    | nil => exact absurd rfl h
    | cons c r =>
      have hc : c = 59 := by
        have h2 : 0 < (wordL (c :: r)).2 := h1.1
        obtain ⟨k, hk⟩ : ∃ k, (wordL (c :: r)).2 = k + 1 := ⟨(wordL (c :: r)).2 - 1, by omega⟩
        rw [hk, List.take_succ_cons] at e
        injection e
      subst hc
      rfl
theorem splitB_tokW (n : Nat) : ∀ (k : Nat) (l : List UInt8) (acc : List Tok), l.length ≤ k → (∀ t ∈ acc, TokW t) → ∀ t ∈ (splitB n l acc).1, TokW t := by
  intro k
  induction k with
  | zero =>
    intro l acc hl ha
    obtain rfl : l = [] := List.length_eq_zero_iff.1 (by omega)
    rw [splitB_nil]
    exact ha
  | succ k ih =>
    intro l acc hl ha
    by_cases h0 : l = []
    · subst h0
      rw [splitB_nil]
      exact ha
    · by_cases hacc : acc.length = 4096
      · rw [splitB, if_neg h0, if_pos hacc]
        intro t ht
        cases ht
      · rw [splitB_cons h0 hacc]
        by_cases hw : (wordL l).1 = 0
        · rw [if_pos hw]
          intro t ht
          cases ht
        · rw [if_neg hw]
          have h1 := wordL_pos hw
          have h2 := blankL_le (l.drop (wordL l).2)
          rw [List.length_drop] at h2
          split
          · refine ih _ _ (by omega) (fun t ht => ?_)
            rcases List.mem_append.1 ht with ht | ht
            · exact ha t ht
            · obtain rfl := List.mem_singleton.1 ht
              exact word_semi hw
          · intro t ht
            cases ht
theorem splitR_wt (l : List UInt8) : WT (splitR l).1 := by
  unfold splitR
  split
  · intro t ht
    cases ht
  · exact splitB_tokW _ _ _ [] (Nat.le_refl _) (fun t ht => by cases ht)
end Go.Proofs.YtpfhgkielakmoaaGreatDoor
/-
  Plain laws of items: two texts, one behind the other; a text's tokens with blanks between them; places; signs ;.
-/
set_option linter.unusedSimpArgs false
set_option linter.unusedVariables false
namespace Go.Proofs.YtpfhgkielakmoaaGreatDoor

theorem splitB_wt (n : Nat) : ∀ (k : Nat) (l : List UInt8) (acc : List Tok), l.length ≤ k → wt (splitB n l acc).1 ≤ wt acc + l.length := by
  intro k
  induction k with
  | zero =>
    intro l acc hl
    obtain rfl : l = [] := List.length_eq_zero_iff.1 (by omega)
    rw [splitB_nil]
    exact Nat.le_add_right _ _
  | succ k ih =>
    intro l acc hl
    by_cases h0 : l = []
    · subst h0
      rw [splitB_nil]
      exact Nat.le_add_right _ _
    · by_cases hacc : acc.length = 4096
      · rw [splitB, if_neg h0, if_pos hacc]
        exact Nat.zero_le _
      · rw [splitB_cons h0 hacc]
        by_cases hw : (wordL l).1 = 0
        · rw [if_pos hw]
          exact Nat.zero_le _
        · rw [if_neg hw]
          have h1 := wordL_pos hw
          have h2 := blankL_le (l.drop (wordL l).2)
          rw [List.length_drop] at h2
          split
          · refine Nat.le_trans (ih _ _ (by omega)) ?_
            rw [wt_append, wt_cons, List.length_take]
            show wt acc + (min (wordL l).2 l.length + 0) + _ ≤ _
            omega
          · exact Nat.zero_le _
theorem splitR_wt_le (l : List UInt8) : wt (splitR l).1 ≤ l.length := by
  unfold splitR
  split
  · exact Nat.zero_le _
  · have h1 := splitB_wt l.length _ (blankL l) [] (Nat.le_refl _)
    have h2 := blankL_le l
    have h3 : wt [] = 0 := rfl
    omega
/-- What Text tells, by tokens. -/
theorem textP_ok {s : List UInt8} (h : (splitR s).2.2 = 0) : textP s = match allGo 512 [] (splitR s).1 with
    | .ok x _ => (x, 0, 0)
    | .bad e r => ([], placeP s.length r, e) := by
  unfold textP
  generalize splitR s = q at *
  obtain ⟨l, p, e⟩ := q
  dsimp only at *
  rw [if_neg (by rw [h]; exact fun e => e rfl)]
  rfl
theorem textP_bad {s : List UInt8} (h : (splitR s).2.2 ≠ 0) : textP s = ([], ((splitR s).2.1 : Int), (splitR s).2.2) := by
  unfold textP
  generalize splitR s = q at *
  obtain ⟨l, p, e⟩ := q
  dsimp only at *
  rw [if_pos h]
theorem textP_split {s : List UInt8} (h : (textP s).2.2 = 0) : (splitR s).2.2 = 0 ∧ ∃ r, allGo 512 [] (splitR s).1 = .ok (textP s).1 r := by
  by_cases h0 : (splitR s).2.2 = 0
  · refine ⟨h0, ?_⟩
    rw [textP_ok h0] at h ⊢
    cases ha : allGo 512 [] (splitR s).1 with
    | ok x r => exact ⟨r, rfl⟩
    | bad e r =>
      rw [ha] at h
      exact absurd h (allGo_bad _ _ _ _ _ ha).2
  · rw [textP_bad h0] at h
    exact absurd h h0
theorem textP_items {s : List UInt8} (h : (textP s).2.2 = 0) : Items (splitR s).1 (textP s).1 ∧ (textP s).1.length ≤ 512 ∧ (textP s).2.1 = 0 := by
  obtain ⟨h0, r, hr⟩ := textP_split h
  obtain ⟨xs, h1, h2, h3⟩ := allGo_items _ _ _ (splitR_wt s) _ _ hr
  rw [List.nil_append] at h1
  rw [h1]
  refine ⟨h2, h3, ?_⟩
  rw [textP_ok h0, hr]
theorem takeWhile_sp {p : UInt8 → Bool} (h : p 32 = false) (r b : List UInt8) : (r ++ 32 :: b).takeWhile p = r.takeWhile p := by
  induction r with
  | nil => rw [List.nil_append, List.takeWhile_cons, if_neg (by simp [h])]; rfl
  | cons c r ih =>
    rw [List.cons_append, List.takeWhile_cons, List.takeWhile_cons, ih]
theorem wordL_sp {l : List UInt8} (hl : l ≠ []) (b : List UInt8) : wordL (l ++ 32 :: b) = wordL l := by
  cases l with
  | nil => exact absurd rfl hl
  | cons c r =>
    rw [List.cons_append]
    unfold wordL
    dsimp only
    rw [takeWhile_sp (p := isWord) (by decide), takeWhile_sp (p := isDigit) (by decide)]
    cases r with
    | nil =>
      have h1 : ((([] ++ 32 :: b : List UInt8).head?.map isDigit) = some true) = False := by simp; decide
      have h2 : ((([] ++ 32 :: b : List UInt8).head? = some 58) = False) := by simp
      have h3 : ((([] ++ 32 :: b : List UInt8).head? = some 46) = False) := by simp
      simp only [h1, h2, h3, and_false, or_false, if_false]
      simp
    | cons d r => rfl
theorem takeWhile_len_take (p : UInt8 → Bool) (r : List UInt8) : (r.take (r.takeWhile p).length).takeWhile p = r.takeWhile p ∧ r.take (r.takeWhile p).length = r.takeWhile p := by
  induction r with
  | nil => exact ⟨rfl, rfl⟩
  | cons c r ih =>
    rw [List.takeWhile_cons]
    split
    · rename_i h
      rw [List.length_cons, List.take_succ_cons, List.takeWhile_cons, if_pos h, ih.1]
      exact ⟨rfl, by rw [ih.2]⟩
    · exact ⟨rfl, rfl⟩
theorem head_take (r : List UInt8) (k : Nat) : (r.take (k + 1)).head? = r.head? := by cases r <;> rfl
theorem takeWhile_pos {p : UInt8 → Bool} {r : List UInt8} (h : (r.head?.map p) = some true) : ∃ k, (r.takeWhile p).length = k + 1 := by
  cases r with
  | nil => cases h
  | cons c r =>
    have hc : p c = true := by simpa using h
    rw [List.takeWhile_cons, if_pos hc]
    exact ⟨_, rfl⟩
/-- A token alone is that token. -/
theorem wordL_take (l : List UInt8) : wordL (l.take (wordL l).2) = wordL l := by
  cases l with
  | nil => rfl
  | cons c r =>
    have e1 : ∀ k, List.take (1 + k) (c :: r) = c :: r.take k := fun k => by rw [Nat.add_comm, List.take_succ_cons]
    by_cases h1 : isLetter c = true
    · have h : wordL (c :: r) = (1, 1 + (r.takeWhile isWord).length) := by unfold wordL; dsimp only; rw [if_pos h1]
      rw [h, e1]
      unfold wordL
      dsimp only
      rw [if_pos h1, (takeWhile_len_take isWord r).1]
    · by_cases h2 : isDigit c = true
      · have h : wordL (c :: r) = (2, 1 + (r.takeWhile isDigit).length) := by unfold wordL; dsimp only; rw [if_neg h1, if_pos h2]
        rw [h, e1]
        unfold wordL
        dsimp only
        rw [if_neg h1, if_pos h2, (takeWhile_len_take isDigit r).1]
      · by_cases h3 : c = 45 ∧ (r.head?.map isDigit) = some true
        · have h : wordL (c :: r) = (2, 1 + (r.takeWhile isDigit).length) := by unfold wordL; dsimp only; rw [if_neg h1, if_neg h2, if_pos h3]
          rw [h, e1]
          unfold wordL
          dsimp only
          obtain ⟨k, hk⟩ := takeWhile_pos h3.2
          rw [if_neg h1, if_neg h2, if_pos ⟨h3.1, by rw [hk, head_take]; exact h3.2⟩, (takeWhile_len_take isDigit r).1]
        · by_cases h4 : (c = 58 ∧ r.head? = some 58) ∨ (c = 46 ∧ r.head? = some 46)
          · have h : wordL (c :: r) = (3, 2) := by unfold wordL; dsimp only; rw [if_neg h1, if_neg h2, if_neg h3, if_pos h4]
            rw [h]
            rw [show List.take 2 (c :: r) = c :: r.take 1 from rfl]
            unfold wordL
            dsimp only
            rw [if_neg h1, if_neg h2, if_neg (by rw [head_take]; exact h3), if_pos (by rw [head_take]; exact h4)]
          · by_cases h5 : isSign c = true
            · have h : wordL (c :: r) = (3, 1) := by unfold wordL; dsimp only; rw [if_neg h1, if_neg h2, if_neg h3, if_neg h4, if_pos h5]
              rw [h]
              rw [show List.take 1 (c :: r) = [c] from rfl]
              unfold wordL
              dsimp only
              rw [if_neg h1, if_neg h2, if_neg (by rintro ⟨_, h⟩; cases h), if_neg (by rintro (⟨_, h⟩ | ⟨_, h⟩) <;> cases h), if_pos h5]
            · have h : wordL (c :: r) = (0, 0) := by unfold wordL; dsimp only; rw [if_neg h1, if_neg h2, if_neg h3, if_neg h4, if_neg h5]
              rw [h]
              rfl
/-- A token's text alone: its kind, its length, its value. -/
def Alone (x : Int × List UInt8 × Int) : Prop := wordL x.2.1 = (x.1, x.2.1.length) ∧ x.1 ≠ 0 ∧ valL x.1 x.2.1 = some x.2.2
theorem toks_alone : ∀ (k : Nat) (l : List UInt8), l.length ≤ k → ∀ ts, toks l = some ts → ∀ x ∈ ts, Alone x := by
  intro k
  induction k with
  | zero =>
    intro l hl ts h
    obtain rfl : l = [] := List.length_eq_zero_iff.1 (by omega)
    rw [toks_nil] at h
    obtain rfl := Option.some.inj h
    intro x hx
    cases hx
  | succ k ih =>
    intro l hl ts h
    by_cases h0 : l = []
    · subst h0
      rw [toks_nil] at h
      obtain rfl := Option.some.inj h
      intro x hx
      cases hx
    · rw [toks_cons h0] at h
      by_cases hw : (wordL l).1 = 0
      · rw [if_pos hw] at h
        cases h
      · rw [if_neg hw] at h
        have h1 := wordL_pos hw
        have h2 := blankL_le (l.drop (wordL l).2)
        rw [List.length_drop] at h2
        cases hv : valL (wordL l).1 (l.take (wordL l).2) with
        | none => rw [hv] at h; cases h
        | some v =>
          rw [hv, Option.bind_some] at h
          cases hq : toks (blankL (l.drop (wordL l).2)) with
          | none => rw [hq] at h; cases h
          | some ts' =>
            rw [hq] at h
            obtain rfl := Option.some.inj h
            intro x hx
            rcases List.mem_cons.1 hx with rfl | hx
            · refine ⟨?_, hw, hv⟩
              show wordL (l.take (wordL l).2) = _
              rw [wordL_take, List.length_take, Nat.min_eq_left h1.2]
            · exact ih _ (by omega) _ hq x hx
/-- What begins a token is not blank. -/
theorem alone_blank {x : Int × List UInt8 × Int} (h : Alone x) (b : List UInt8) : x.2.1 ≠ [] ∧ blankL (x.2.1 ++ b) = x.2.1 ++ b := by
  obtain ⟨h1, h2, _⟩ := h
  have h3 : (wordL x.2.1).1 ≠ 0 := by rw [h1]; exact h2
  cases ht : x.2.1 with
  | nil => rw [ht] at h3; exact absurd rfl h3
  | cons c r =>
    rw [ht] at h3
    refine ⟨by simp, ?_⟩
    rw [List.cons_append]
    have hb : ¬ isWs c = true ∧ c ≠ 37 := by
      refine ⟨fun hw => h3 ?_, fun hc => h3 ?_⟩
      · have hc : c = 32 ∨ c = 9 ∨ c = 13 ∨ c = 10 := by simpa [isWs, or_assoc] using hw
        rcases hc with rfl | rfl | rfl | rfl <;> (unfold wordL; dsimp only; rw [if_neg (by decide), if_neg (by decide), if_neg (by rintro ⟨h, _⟩; exact absurd h (by decide)), if_neg (by rintro (⟨h, _⟩ | ⟨h, _⟩) <;> exact absurd h (by decide)), if_neg (by decide)])
      · subst hc
        unfold wordL; dsimp only; rw [if_neg (by decide), if_neg (by decide), if_neg (by rintro ⟨h, _⟩; exact absurd h (by decide)), if_neg (by rintro (⟨h, _⟩ | ⟨h, _⟩) <;> exact absurd h (by decide)), if_neg (by decide)]
    exact blankL_no (by simpa using hb.1) hb.2
theorem blank_sp (b : List UInt8) : blankL (32 :: b) = blankL b := blankL_ws (by decide)
theorem places_le {L : List UInt8} : ∀ {ts : List Tok} {last : Nat}, placesOK L last ts → ∀ t ∈ ts, 0 ≤ t.at_ ∧ t.at_ ≤ L.length
  | [], _, _ => fun t ht => by cases ht
  | x :: r, last, h => fun t ht => by
    obtain ⟨a, h1, h2, h3, h4, h5, h6, h7, h8, h9, h10⟩ := h
    rcases List.mem_cons.1 ht with rfl | ht
    · rw [h1]
      omega
    · exact places_le h10 t ht
/-- An error's place; how many items. -/
theorem text_places (s : List UInt8) : ((textP s).2.2 ≠ 0 → 0 ≤ (textP s).2.1 ∧ ((textP s).2.1 ≤ s.length ∨ (textP s).2.1 = 0) ∧ (textP s).1 = [] ∧ ((splitR s).2.2 = 0 ∨ (splitR s).2.2 = (textP s).2.2)) ∧
    ((textP s).2.2 = 0 → (textP s).2.1 = 0 ∧ (splitR s).2.2 = 0 ∧ (0 < (textP s).1.length ↔ 0 < (splitR s).1.length) ∧ (textP s).1.length ≤ 512) := by
  have hp := places_plain s
  refine ⟨fun h => ?_, fun h => ?_⟩
  · by_cases h0 : (splitR s).2.2 = 0
    · rw [textP_ok h0] at h ⊢
      cases ha : allGo 512 [] (splitR s).1 with
      | ok x r => rw [ha] at h; exact absurd rfl h
      | bad e r =>
        obtain ⟨⟨c, hc⟩, _⟩ := allGo_bad _ _ _ _ _ ha
        dsimp only
        have hpl : 0 ≤ placeP s.length r ∧ placeP s.length r ≤ s.length := by
          cases r with
          | nil => exact ⟨Int.natCast_nonneg _, Int.le_refl _⟩
          | cons t r =>
            exact places_le (hp.1 h0).2 t (by rw [hc]; simp)
        exact ⟨hpl.1, Or.inl hpl.2, rfl, Or.inl h0⟩
    · rw [textP_bad h0]
      obtain ⟨h1, h2⟩ := hp.2 h0
      refine ⟨Int.natCast_nonneg _, ?_, rfl, Or.inr rfl⟩
      dsimp only
      rcases h2 with h2 | h2
      · left; omega
      · right; omega
  · obtain ⟨i1, i2, i3⟩ := textP_items h
    refine ⟨i3, (textP_split h).1, ?_, i2⟩
    generalize (splitR s).1 = L at *
    generalize (textP s).1 = M at *
    cases i1 with
    | nil => exact Iff.rfl
    | cons h1 h2 h3 h4 h5 =>
      simp
      omega
theorem bind_ok {α β : Type} {f : Pm α} {g : α → Pm β} {l : List Tok} {y : β} {r : List Tok} (h : pbind f g l = .ok y r) : ∃ x s, f l = .ok x s ∧ g x s = .ok y r := by
  unfold pbind at h
  cases hx : f l with
  | bad e s => rw [hx] at h; cases h
  | ok x s =>
    rw [hx] at h
    exact ⟨x, s, rfl, h⟩
end Go.Proofs.YtpfhgkielakmoaaGreatDoor

/-
  Plain laws of items: two texts, one behind the other; a text's tokens with blanks between them; places; signs ;.
-/
import Derived.Test.YtpfhgkielakmoaaDoorPc
set_option linter.unusedSimpArgs false
set_option linter.unusedVariables false
namespace Go.Proofs.YtpfhgkielakmoaaDoor

theorem splitB_wt (n : Nat) : ∀ (k : Nat) (l : List UInt8) (acc : List Tok), l.length ≤ k → wt (splitB n l acc).1 ≤ wt acc + l.length := by
  intro k
  induction k with
  | zero =>
    intro l acc hl
    obtain rfl : l = [] := List.length_eq_zero_iff.1 (by omega)
    rw [splitB_nil]
    exact Nat.le_add_right _ _
  | succ k ih =>
    intro l acc hl
    by_cases h0 : l = []
    · subst h0
      rw [splitB_nil]
      exact Nat.le_add_right _ _
    · by_cases hacc : acc.length = 4096
      · rw [splitB, if_neg h0, if_pos hacc]
        exact Nat.zero_le _
      · rw [splitB_cons h0 hacc]
        by_cases hw : (wordL l).1 = 0
        · rw [if_pos hw]
          exact Nat.zero_le _
        · rw [if_neg hw]
          have h1 := wordL_pos hw
          have h2 := blankL_le (l.drop (wordL l).2)
          rw [List.length_drop] at h2
          split
          · refine Nat.le_trans (ih _ _ (by omega)) ?_
            rw [wt_append, wt_cons, List.length_take]
            show wt acc + (min (wordL l).2 l.length + 0) + _ ≤ _
            omega
          · exact Nat.zero_le _
theorem splitR_wt_le (l : List UInt8) : wt (splitR l).1 ≤ l.length := by
  unfold splitR
  split
  · exact Nat.zero_le _
  · have h1 := splitB_wt l.length _ (blankL l) [] (Nat.le_refl _)
    have h2 := blankL_le l
    have h3 : wt [] = 0 := rfl
    omega
theorem wt_strip {a b : List Tok} (h : a.map stripT = b.map stripT) : wt a = wt b := by
  induction a generalizing b with
  | nil => cases b with
    | nil => rfl
    | cons u b => cases h
  | cons t a ih => cases b with
    | nil => cases h
    | cons u b =>
      obtain ⟨h1, h2⟩ := List.cons.inj h
      rw [wt_cons, wt_cons, (strip_eq h1).2.1, ih h2]
/-- What Text tells, by tokens. -/
theorem textP_ok {s : List UInt8} (h : (splitR s).2.2 = 0) : textP s = match allGo 512 [] (splitR s).1 with
    | .ok x _ => (x, 0, 0)
    | .bad e r => ([], placeP s.length r, e) := by
  unfold textP
  generalize splitR s = q at *
  obtain ⟨l, p, e⟩ := q
  dsimp only at *
  rw [if_neg (by rw [h]; exact fun e => e rfl)]
  rfl
theorem textP_bad {s : List UInt8} (h : (splitR s).2.2 ≠ 0) : textP s = ([], ((splitR s).2.1 : Int), (splitR s).2.2) := by
  unfold textP
  generalize splitR s = q at *
  obtain ⟨l, p, e⟩ := q
  dsimp only at *
  rw [if_pos h]
theorem textP_split {s : List UInt8} (h : (textP s).2.2 = 0) : (splitR s).2.2 = 0 ∧ ∃ r, allGo 512 [] (splitR s).1 = .ok (textP s).1 r := by
  by_cases h0 : (splitR s).2.2 = 0
  · refine ⟨h0, ?_⟩
    rw [textP_ok h0] at h ⊢
    cases ha : allGo 512 [] (splitR s).1 with
    | ok x r => exact ⟨r, rfl⟩
    | bad e r =>
      rw [ha] at h
      exact absurd h (allGo_bad _ _ _ _ _ ha).2
  · rw [textP_bad h0] at h
    exact absurd h h0
theorem textP_items {s : List UInt8} (h : (textP s).2.2 = 0) : Items (splitR s).1 (textP s).1 ∧ (textP s).1.length ≤ 512 ∧ (textP s).2.1 = 0 := by
  obtain ⟨h0, r, hr⟩ := textP_split h
  obtain ⟨xs, h1, h2, h3⟩ := allGo_items _ _ _ (splitR_wt s) _ _ hr
  rw [List.nil_append] at h1
  rw [h1]
  refine ⟨h2, h3, ?_⟩
  rw [textP_ok h0, hr]
theorem both_items {a b : List UInt8} (ha : a.length ≤ 1800) (hb : b.length ≤ 1800) (h1 : (textP a).2.2 = 0) (h2 : (textP b).2.2 = 0) :
    textP (a ++ 10 :: b) = ((textP a).1 ++ (textP b).1, 0, 0) := by
  obtain ⟨i1, _, _⟩ := textP_items h1
  obtain ⟨i2, _, _⟩ := textP_items h2
  obtain ⟨s1, _⟩ := textP_split h1
  obtain ⟨s2, _⟩ := textP_split h2
  obtain ⟨s3, s4⟩ := (both_plain (a := a) (b := b) (by omega) (by omega)).1 s1 s2
  have i3 := items_append i1 i2 (splitR_wt a)
  have hw := items_wt i3
  rw [wt_append] at hw
  have w1 := splitR_wt_le a
  have w2 := splitR_wt_le b
  have i4 := items_allGo i3 512 [] (by omega)
  rw [List.nil_append] at i4
  obtain ⟨s, i5, _⟩ := (allGo_alike 512 [] _ _ s4.symm).trans_ok i4
  rw [textP_ok s3, i5]
theorem takeWhile_sp {p : UInt8 → Bool} (h : p 32 = false) (r b : List UInt8) : (r ++ 32 :: b).takeWhile p = r.takeWhile p := by
  induction r with
  | nil => rw [List.nil_append, List.takeWhile_cons, if_neg (by simp [h])]; rfl
  | cons c r ih =>
    rw [List.cons_append, List.takeWhile_cons, List.takeWhile_cons, ih]
theorem wordL_sp {l : List UInt8} (hl : l ≠ []) (b : List UInt8) : wordL (l ++ 32 :: b) = wordL l := by
  cases l with
  | nil => exact absurd rfl hl
  | cons c r =>
    rw [List.cons_append]
    unfold wordL
    dsimp only
    rw [takeWhile_sp (p := isWord) (by decide), takeWhile_sp (p := isDigit) (by decide)]
    cases r with
    | nil =>
      have h1 : ((([] ++ 32 :: b : List UInt8).head?.map isDigit) = some true) = False := by simp; decide
      have h2 : ((([] ++ 32 :: b : List UInt8).head? = some 58) = False) := by simp
      have h3 : ((([] ++ 32 :: b : List UInt8).head? = some 46) = False) := by simp
      simp only [h1, h2, h3, and_false, or_false, if_false]
      simp
    | cons d r => rfl
theorem takeWhile_len_take (p : UInt8 → Bool) (r : List UInt8) : (r.take (r.takeWhile p).length).takeWhile p = r.takeWhile p ∧ r.take (r.takeWhile p).length = r.takeWhile p := by
  induction r with
  | nil => exact ⟨rfl, rfl⟩
  | cons c r ih =>
    rw [List.takeWhile_cons]
    split
    · rename_i h
      rw [List.length_cons, List.take_succ_cons, List.takeWhile_cons, if_pos h, ih.1]
      exact ⟨rfl, by rw [ih.2]⟩
    · exact ⟨rfl, rfl⟩
theorem head_take (r : List UInt8) (k : Nat) : (r.take (k + 1)).head? = r.head? := by cases r <;> rfl
theorem takeWhile_pos {p : UInt8 → Bool} {r : List UInt8} (h : (r.head?.map p) = some true) : ∃ k, (r.takeWhile p).length = k + 1 := by
  cases r with
  | nil => cases h
  | cons c r =>
    have hc : p c = true := by simpa using h
    rw [List.takeWhile_cons, if_pos hc]
    exact ⟨_, rfl⟩
/-- A token alone is that token. -/
theorem wordL_take (l : List UInt8) : wordL (l.take (wordL l).2) = wordL l := by
  cases l with
  | nil => rfl
  | cons c r =>
    have e1 : ∀ k, List.take (1 + k) (c :: r) = c :: r.take k := fun k => by rw [Nat.add_comm, List.take_succ_cons]
    by_cases h1 : isLetter c = true
    · have h : wordL (c :: r) = (1, 1 + (r.takeWhile isWord).length) := by unfold wordL; dsimp only; rw [if_pos h1]
      rw [h, e1]
      unfold wordL
      dsimp only
      rw [if_pos h1, (takeWhile_len_take isWord r).1]
    · by_cases h2 : isDigit c = true
      · have h : wordL (c :: r) = (2, 1 + (r.takeWhile isDigit).length) := by unfold wordL; dsimp only; rw [if_neg h1, if_pos h2]
        rw [h, e1]
        unfold wordL
        dsimp only
        rw [if_neg h1, if_pos h2, (takeWhile_len_take isDigit r).1]
      · by_cases h3 : c = 45 ∧ (r.head?.map isDigit) = some true
        · have h : wordL (c :: r) = (2, 1 + (r.takeWhile isDigit).length) := by unfold wordL; dsimp only; rw [if_neg h1, if_neg h2, if_pos h3]
          rw [h, e1]
          unfold wordL
          dsimp only
          obtain ⟨k, hk⟩ := takeWhile_pos h3.2
          rw [if_neg h1, if_neg h2, if_pos ⟨h3.1, by rw [hk, head_take]; exact h3.2⟩, (takeWhile_len_take isDigit r).1]
        · by_cases h4 : (c = 58 ∧ r.head? = some 58) ∨ (c = 46 ∧ r.head? = some 46)
          · have h : wordL (c :: r) = (3, 2) := by unfold wordL; dsimp only; rw [if_neg h1, if_neg h2, if_neg h3, if_pos h4]
            rw [h]
            rw [show List.take 2 (c :: r) = c :: r.take 1 from rfl]
            unfold wordL
            dsimp only
            rw [if_neg h1, if_neg h2, if_neg (by rw [head_take]; exact h3), if_pos (by rw [head_take]; exact h4)]
          · by_cases h5 : isSign c = true
            · have h : wordL (c :: r) = (3, 1) := by unfold wordL; dsimp only; rw [if_neg h1, if_neg h2, if_neg h3, if_neg h4, if_pos h5]
              rw [h]
              rw [show List.take 1 (c :: r) = [c] from rfl]
              unfold wordL
              dsimp only
              rw [if_neg h1, if_neg h2, if_neg (by rintro ⟨_, h⟩; cases h), if_neg (by rintro (⟨_, h⟩ | ⟨_, h⟩) <;> cases h), if_pos h5]
            · have h : wordL (c :: r) = (0, 0) := by unfold wordL; dsimp only; rw [if_neg h1, if_neg h2, if_neg h3, if_neg h4, if_neg h5]
              rw [h]
              rfl
/-- A token's text alone: its kind, its length, its value. -/
def Alone (x : Int × List UInt8 × Int) : Prop := wordL x.2.1 = (x.1, x.2.1.length) ∧ x.1 ≠ 0 ∧ valL x.1 x.2.1 = some x.2.2
theorem toks_alone : ∀ (k : Nat) (l : List UInt8), l.length ≤ k → ∀ ts, toks l = some ts → ∀ x ∈ ts, Alone x := by
  intro k
  induction k with
  | zero =>
    intro l hl ts h
    obtain rfl : l = [] := List.length_eq_zero_iff.1 (by omega)
    rw [toks_nil] at h
    obtain rfl := Option.some.inj h
    intro x hx
    cases hx
  | succ k ih =>
    intro l hl ts h
    by_cases h0 : l = []
    · subst h0
      rw [toks_nil] at h
      obtain rfl := Option.some.inj h
      intro x hx
      cases hx
    · rw [toks_cons h0] at h
      by_cases hw : (wordL l).1 = 0
      · rw [if_pos hw] at h
        cases h
      · rw [if_neg hw] at h
        have h1 := wordL_pos hw
        have h2 := blankL_le (l.drop (wordL l).2)
        rw [List.length_drop] at h2
        cases hv : valL (wordL l).1 (l.take (wordL l).2) with
        | none => rw [hv] at h; cases h
        | some v =>
          rw [hv, Option.bind_some] at h
          cases hq : toks (blankL (l.drop (wordL l).2)) with
          | none => rw [hq] at h; cases h
          | some ts' =>
            rw [hq] at h
            obtain rfl := Option.some.inj h
            intro x hx
            rcases List.mem_cons.1 hx with rfl | hx
            · refine ⟨?_, hw, hv⟩
              show wordL (l.take (wordL l).2) = _
              rw [wordL_take, List.length_take, Nat.min_eq_left h1.2]
            · exact ih _ (by omega) _ hq x hx
/-- What begins a token is not blank. -/
theorem alone_blank {x : Int × List UInt8 × Int} (h : Alone x) (b : List UInt8) : x.2.1 ≠ [] ∧ blankL (x.2.1 ++ b) = x.2.1 ++ b := by
  obtain ⟨h1, h2, _⟩ := h
  have h3 : (wordL x.2.1).1 ≠ 0 := by rw [h1]; exact h2
  cases ht : x.2.1 with
  | nil => rw [ht] at h3; exact absurd rfl h3
  | cons c r =>
    rw [ht] at h3
    refine ⟨by simp, ?_⟩
    rw [List.cons_append]
    have hb : ¬ isWs c = true ∧ c ≠ 37 := by
      refine ⟨fun hw => h3 ?_, fun hc => h3 ?_⟩
      · have hc : c = 32 ∨ c = 9 ∨ c = 13 ∨ c = 10 := by simpa [isWs, or_assoc] using hw
        rcases hc with rfl | rfl | rfl | rfl <;> (unfold wordL; dsimp only; rw [if_neg (by decide), if_neg (by decide), if_neg (by rintro ⟨h, _⟩; exact absurd h (by decide)), if_neg (by rintro (⟨h, _⟩ | ⟨h, _⟩) <;> exact absurd h (by decide)), if_neg (by decide)])
      · subst hc
        unfold wordL; dsimp only; rw [if_neg (by decide), if_neg (by decide), if_neg (by rintro ⟨h, _⟩; exact absurd h (by decide)), if_neg (by rintro (⟨h, _⟩ | ⟨h, _⟩) <;> exact absurd h (by decide)), if_neg (by decide)]
    exact blankL_no (by simpa using hb.1) hb.2
theorem blank_sp (b : List UInt8) : blankL (32 :: b) = blankL b := blankL_ws (by decide)
/-- The tokens of tokens' texts with blanks between them. -/
theorem toks_joinR : ∀ (ts : List (Int × List UInt8 × Int)), (∀ x ∈ ts, Alone x) → blankL (joinR (ts.map (·.2.1))) = joinR (ts.map (·.2.1)) ∧ toks (joinR (ts.map (·.2.1))) = some ts
  | [], _ => ⟨blankL_nil, toks_nil⟩
  | [x], h => by
    have hx := h x List.mem_cons_self
    obtain ⟨h1, h2⟩ := alone_blank hx []
    rw [List.append_nil] at h2
    obtain ⟨h3, h4, h5⟩ := hx
    refine ⟨h2, ?_⟩
    show toks x.2.1 = _
    rw [toks_cons h1, h3, if_neg h4]
    dsimp only
    rw [List.take_length, h5, List.drop_length, blankL_nil, toks_nil]
    rfl
  | x :: y :: r, h => by
    have hx := h x List.mem_cons_self
    have ih := toks_joinR (y :: r) (fun z hz => h z (List.mem_cons_of_mem _ hz))
    have e : joinR ((x :: y :: r).map (·.2.1)) = x.2.1 ++ 32 :: joinR ((y :: r).map (·.2.1)) := rfl
    generalize joinR ((y :: r).map (·.2.1)) = J at *
    obtain ⟨h1, h2⟩ := alone_blank hx (32 :: J)
    obtain ⟨h3, h4, h5⟩ := hx
    rw [e]
    refine ⟨h2, ?_⟩
    rw [toks_cons (by simp), wordL_sp h1, h3, if_neg h4]
    dsimp only
    rw [List.take_left, h5, List.drop_left, blank_sp, ih.1, ih.2]
    rfl
theorem joinR_wt (l : List Tok) : (joinR (l.map (·.t))).length ≤ wt l + l.length := by
  induction l with
  | nil => exact Nat.zero_le _
  | cons t l ih =>
    cases l with
    | nil =>
      show t.t.length ≤ _
      rw [wt_cons]
      omega
    | cons u l =>
      have e : joinR ((t :: u :: l).map (·.t)) = t.t ++ 32 :: joinR ((u :: l).map (·.t)) := rfl
      rw [e, List.length_append, List.length_cons, wt_cons, List.length_cons]
      omega
theorem wt_ge {l : List Tok} (h : WT l) : l.length ≤ wt l := by
  induction l with
  | nil => exact Nat.zero_le _
  | cons t l ih =>
    have h1 := List.length_pos_iff.2 (h t List.mem_cons_self).1
    have h2 := ih (fun u hu => h u (List.mem_cons_of_mem _ hu))
    rw [wt_cons, List.length_cons]
    omega
/-- What is blank between words changes nothing in the items. -/
theorem blank_items {s : List UInt8} (hs : s.length ≤ 1800) (h : (splitR s).2.2 = 0) :
    (textP s).1 = (textP (joinR ((splitR s).1.map (·.t)))).1 ∧ (textP s).2.2 = (textP (joinR ((splitR s).1.map (·.t)))).2.2 := by
  have hw := splitR_wt_le s
  have hg := wt_ge (splitR_wt s)
  have hj := joinR_wt (splitR s).1
  have h1 := splitR_toks (l := s) (by omega)
  cases et : toks (blankL s) with
  | none => exact absurd h (h1.2 et).1
  | some ts =>
    obtain ⟨_, _, h2⟩ := h1.1 ts et
    have ha := toks_alone _ _ (Nat.le_refl _) ts et
    obtain ⟨j1, j2⟩ := toks_joinR ts ha
    have em : ts.map (·.2.1) = (splitR s).1.map (·.t) := by rw [← h2, List.map_map]; rfl
    rw [em] at j1 j2
    have h3 := splitR_toks (l := joinR ((splitR s).1.map (·.t))) (by omega)
    rw [j1] at h3
    obtain ⟨k1, _, k2⟩ := h3.1 ts j2
    have al := allGo_alike 512 [] (splitR s).1 (splitR (joinR ((splitR s).1.map (·.t)))).1 (by rw [h2, k2])
    rw [textP_ok h, textP_ok k1]
    cases e1 : allGo 512 [] (splitR s).1 with
    | ok x r =>
      cases e2 : allGo 512 [] (splitR (joinR ((splitR s).1.map (·.t)))).1 with
      | ok y q =>
        rw [e1, e2] at al
        exact ⟨al.1, rfl⟩
      | bad e q => rw [e1, e2] at al; exact al.elim
    | bad e r =>
      cases e2 : allGo 512 [] (splitR (joinR ((splitR s).1.map (·.t)))).1 with
      | ok y q => rw [e1, e2] at al; exact al.elim
      | bad d q =>
        rw [e1, e2] at al
        exact ⟨rfl, al.1⟩
theorem places_le {L : List UInt8} : ∀ {ts : List Tok} {last : Nat}, placesOK L last ts → ∀ t ∈ ts, 0 ≤ t.at_ ∧ t.at_ ≤ L.length
  | [], _, _ => fun t ht => by cases ht
  | x :: r, last, h => fun t ht => by
    obtain ⟨a, h1, h2, h3, h4, h5, h6, h7, h8, h9, h10⟩ := h
    rcases List.mem_cons.1 ht with rfl | ht
    · rw [h1]
      omega
    · exact places_le h10 t ht
/-- An error's place; how many items. -/
theorem text_places (s : List UInt8) : ((textP s).2.2 ≠ 0 → 0 ≤ (textP s).2.1 ∧ ((textP s).2.1 ≤ s.length ∨ (textP s).2.1 = 0) ∧ (textP s).1 = [] ∧ ((splitR s).2.2 = 0 ∨ (splitR s).2.2 = (textP s).2.2)) ∧
    ((textP s).2.2 = 0 → (textP s).2.1 = 0 ∧ (splitR s).2.2 = 0 ∧ (0 < (textP s).1.length ↔ 0 < (splitR s).1.length) ∧ (textP s).1.length ≤ 512) := by
  have hp := places_plain s
  refine ⟨fun h => ?_, fun h => ?_⟩
  · by_cases h0 : (splitR s).2.2 = 0
    · rw [textP_ok h0] at h ⊢
      cases ha : allGo 512 [] (splitR s).1 with
      | ok x r => rw [ha] at h; exact absurd rfl h
      | bad e r =>
        obtain ⟨⟨c, hc⟩, _⟩ := allGo_bad _ _ _ _ _ ha
        dsimp only
        have hpl : 0 ≤ placeP s.length r ∧ placeP s.length r ≤ s.length := by
          cases r with
          | nil => exact ⟨Int.natCast_nonneg _, Int.le_refl _⟩
          | cons t r =>
            exact places_le (hp.1 h0).2 t (by rw [hc]; simp)
        exact ⟨hpl.1, Or.inl hpl.2, rfl, Or.inl h0⟩
    · rw [textP_bad h0]
      obtain ⟨h1, h2⟩ := hp.2 h0
      refine ⟨Int.natCast_nonneg _, ?_, rfl, Or.inr rfl⟩
      dsimp only
      rcases h2 with h2 | h2
      · left; omega
      · right; omega
  · obtain ⟨i1, i2, i3⟩ := textP_items h
    refine ⟨i3, (textP_split h).1, ?_, i2⟩
    generalize (splitR s).1 = L at *
    generalize (textP s).1 = M at *
    cases i1 with
    | nil => exact Iff.rfl
    | cons h1 h2 h3 h4 h5 =>
      simp
      omega
/-- May an item begin with a word? -/
def startsP (x : It) (w : List UInt8) : Bool :=
  if w = wInt then decide (x.k = 1) && !x.bool else if w = wBool then decide (x.k = 1) && x.bool else if w = wVar then decide (x.k = 2)
  else if w = wArray then decide (x.k = 3) || decide (x.k = 4) else if w = wConstraint then decide (x.k = 5) else decide (w = wSolve) && decide (x.k = 6)
theorem bind_ok {α β : Type} {f : Pm α} {g : α → Pm β} {l : List Tok} {y : β} {r : List Tok} (h : pbind f g l = .ok y r) : ∃ x s, f l = .ok x s ∧ g x s = .ok y r := by
  unfold pbind at h
  cases hx : f l with
  | bad e s => rw [hx] at h; cases h
  | ok x s =>
    rw [hx] at h
    exact ⟨x, s, rfl, h⟩
theorem ret_ok {α : Type} {x y : α} {l r : List Tok} (h : pret x l = .ok y r) : y = x := by
  injection h with h1 _
  exact h1.symm
theorem is_cons (s : List UInt8) (t : Tok) (l : List Tok) : isP s (t :: l) = (t.t == s) := rfl
theorem par_kind {l : List Tok} {x : It} {r : List Tok} (h : parP l = .ok x r) : x.k = 1 ∧ ∃ s, truthP l = .ok x.bool s := by
  obtain ⟨b, s, hb, h⟩ := bind_ok h
  obtain ⟨_, _, _, h⟩ := bind_ok h
  obtain ⟨nm, _, _, h⟩ := bind_ok h
  obtain ⟨_, s4, _, h⟩ := bind_ok h
  split at h
  · obtain ⟨v, _, _, h⟩ := bind_ok h
    have := ret_ok h
    subst this
    exact ⟨rfl, s, hb⟩
  · cases h
theorem variable_kind {l : List Tok} {x : It} {r : List Tok} (h : variableP l = .ok x r) : x.k = 2 := by
  obtain ⟨_, _, _, h⟩ := bind_ok h
  obtain ⟨_, _, _, h⟩ := bind_ok h
  obtain ⟨_, _, _, h⟩ := bind_ok h
  obtain ⟨_, _, _, h⟩ := bind_ok h
  obtain ⟨_, _, _, h⟩ := bind_ok h
  obtain ⟨v, _, _, h⟩ := bind_ok h
  cases v
  · have := ret_ok h
    subst this
    rfl
  · obtain ⟨_, _, _, h⟩ := bind_ok h
    have := ret_ok h
    subst this
    rfl
theorem array_kind {l : List Tok} {x : It} {r : List Tok} (h : arrayP l = .ok x r) : x.k = 3 ∨ x.k = 4 := by
  obtain ⟨_, _, _, h⟩ := bind_ok h
  obtain ⟨_, _, _, h⟩ := bind_ok h
  obtain ⟨_, _, _, h⟩ := bind_ok h
  obtain ⟨_, _, _, h⟩ := bind_ok h
  obtain ⟨_, _, _, h⟩ := bind_ok h
  obtain ⟨v, _, _, h⟩ := bind_ok h
  obtain ⟨_, _, _, h⟩ := bind_ok h
  obtain ⟨_, _, _, h⟩ := bind_ok h
  obtain ⟨_, _, _, h⟩ := bind_ok h
  obtain ⟨_, _, _, h⟩ := bind_ok h
  obtain ⟨_, _, _, h⟩ := bind_ok h
  obtain ⟨_, _, _, h⟩ := bind_ok h
  obtain ⟨_, _, _, h⟩ := bind_ok h
  have := ret_ok h
  subst this
  cases v
  · exact Or.inl rfl
  · exact Or.inr rfl
theorem goal_kind {l : List Tok} {x : It} {r : List Tok} (h : goalP l = .ok x r) : x.k = 6 := by
  obtain ⟨v, _, _, h⟩ := bind_ok h
  cases v
  · obtain ⟨v, _, _, h⟩ := bind_ok h
    cases v
    · obtain ⟨v, _, _, h⟩ := bind_ok h
      cases v
      · cases h
      · obtain ⟨_, _, _, h⟩ := bind_ok h
        have := ret_ok h
        subst this
        rfl
    · obtain ⟨_, _, _, h⟩ := bind_ok h
      have := ret_ok h
      subst this
      rfl
  · have := ret_ok h
    subst this
    rfl
theorem may_cons {s : List UInt8} {t : Tok} {l : List Tok} {b : Bool} {r : List Tok} (h : mayP s (t :: l) = .ok b r) : (t.t = s ∧ b = true) ∨ (t.t ≠ s ∧ b = false ∧ r = t :: l) := by
  have h' : (if (t.t == s) = true then PR.ok true l else PR.ok false (t :: l)) = .ok b r := h
  by_cases e : t.t = s
  · rw [if_pos (by simpa using e)] at h'
    injection h' with h1 _
    exact Or.inl ⟨e, h1.symm⟩
  · rw [if_neg (by simpa using e)] at h'
    injection h' with h1 h2
    exact Or.inr ⟨e, h1.symm, h2.symm⟩
/-- Each item's kind is what its first word says. -/
theorem item_starts {t : Tok} {l : List Tok} {x : It} {r : List Tok} (h : itemP (t :: l) = .ok x r) : startsP x t.t = true := by
  unfold itemP at h
  split at h
  · rename_i hi
    rw [is_cons, is_cons] at hi
    obtain ⟨h1, s, h2⟩ := par_kind h
    obtain ⟨b, q, hm, h3⟩ := bind_ok h2
    rcases may_cons hm with ⟨h4, rfl⟩ | ⟨h4, rfl, rfl⟩
    · have hb := ret_ok h3
      unfold startsP
      rw [h4, if_neg (by decide), if_pos rfl, h1, hb]
      rfl
    · obtain ⟨_, _, h5, h6⟩ := bind_ok h3
      have hb := ret_ok h6
      have h7 : t.t = wInt := by
        have hi' : t.t = wInt ∨ t.t = wBool := by simpa using hi
        rcases hi' with h | h
        · exact h
        · exact absurd h h4
      unfold startsP
      rw [h7, if_pos rfl, h1, hb]
      rfl
  · rename_i hi
    rw [is_cons, is_cons] at hi
    have hi' : t.t ≠ wInt ∧ t.t ≠ wBool := by simpa [not_or] using hi
    unfold startsP
    rw [if_neg hi'.1, if_neg hi'.2]
    obtain ⟨b, q, hm, h⟩ := bind_ok h
    rcases may_cons hm with ⟨h4, rfl⟩ | ⟨h4, rfl, rfl⟩
    · rw [if_pos h4, variable_kind h]
      rfl
    rw [if_neg h4]
    obtain ⟨b, q, hm, h⟩ := bind_ok h
    rcases may_cons hm with ⟨h4, rfl⟩ | ⟨h4, rfl, rfl⟩
    · rw [if_pos h4]
      rcases array_kind h with h | h <;> rw [h] <;> rfl
    rw [if_neg h4]
    obtain ⟨b, q, hm, h⟩ := bind_ok h
    rcases may_cons hm with ⟨h4, rfl⟩ | ⟨h4, rfl, rfl⟩
    · rw [if_pos h4]
      obtain ⟨_, _, _, h⟩ := bind_ok h
      obtain ⟨_, _, _, h⟩ := bind_ok h
      obtain ⟨_, _, _, h⟩ := bind_ok h
      have := ret_ok h
      subst this
      rfl
    rw [if_neg h4]
    obtain ⟨b, q, hm, h⟩ := bind_ok h
    rcases may_cons hm with ⟨h4, rfl⟩ | ⟨h4, rfl, rfl⟩
    · rw [goal_kind h, h4]
      rfl
    · cases h
/-- Where the going through the tokens stands: an item begins; or one goes on. -/
def Ends (b : Bool) (l : List Tok) (xs : List It) : Prop := if b then Items l xs else ∃ c t r x ys, xs = x :: ys ∧ l = c ++ t :: r ∧ t.t = semi ∧ (∀ u ∈ c, u.t ≠ semi) ∧ Items r ys
theorem ends_begin {t : Tok} {l : List Tok} {xs : List It} (h : Items (t :: l) xs) : ∃ x ys, xs = x :: ys ∧ startsP x t.t = true ∧ (t.t = semi → False) ∧ Ends false l xs := by
  generalize hq : t :: l = q at h
  cases h with
  | nil => cases hq
  | @cons c u r x ys h1 h2 h3 h4 h5 =>
    cases c with
    | nil => cases h4
    | cons v c =>
      rw [List.cons_append] at hq h1
      obtain ⟨rfl, rfl⟩ := List.cons.inj hq
      exact ⟨x, ys, rfl, item_starts h1, h3 _ List.mem_cons_self, c, u, r, x, ys, rfl, rfl, h2, fun w hw => h3 w (List.mem_cons_of_mem _ hw), h5⟩
theorem ends_on {t : Tok} {l : List Tok} {xs : List It} (h : Ends false (t :: l) xs) : (t.t = semi → ∃ x ys, xs = x :: ys ∧ Ends true l ys) ∧ (t.t ≠ semi → Ends false l xs) := by
  obtain ⟨c, u, r, x, ys, h1, h2, h3, h4, h5⟩ := h
  cases c with
  | nil =>
    obtain ⟨rfl, rfl⟩ := List.cons.inj h2
    exact ⟨fun _ => ⟨x, ys, h1, h5⟩, fun h => absurd h3 h⟩
  | cons v c =>
    rw [List.cons_append] at h2
    obtain ⟨rfl, rfl⟩ := List.cons.inj h2
    exact ⟨fun h => absurd h (h4 _ List.mem_cons_self), fun _ => ⟨c, u, r, x, ys, h1, rfl, h3, fun w hw => h4 w (List.mem_cons_of_mem _ hw), h5⟩⟩
theorem ends_nil {b : Bool} {xs : List It} (h : Ends b [] xs) : b = true ∧ xs = [] := by
  cases b with
  | true =>
    refine ⟨rfl, ?_⟩
    generalize hq : ([] : List Tok) = q at h
    cases h with
    | nil => rfl
    | cons h1 h2 h3 h4 h5 => simp at hq
  | false =>
    obtain ⟨c, u, r, x, ys, h1, h2, _⟩ := h
    simp at h2
end Go.Proofs.YtpfhgkielakmoaaDoor

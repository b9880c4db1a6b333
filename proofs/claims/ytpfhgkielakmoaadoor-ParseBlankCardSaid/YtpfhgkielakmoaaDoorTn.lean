/-
  Plain laws of tokens: where they stand; two texts, one behind the other.
-/
import Derived.Test.YtpfhgkielakmoaaDoorTg
set_option linter.unusedSimpArgs false
set_option linter.unusedVariables false
namespace Go.Proofs.YtpfhgkielakmoaaDoor

theorem blankL_pct (r : List UInt8) : blankL (37 :: r) = blankL (r.dropWhile noLf) := blankL_on (by rw [List.dropWhile_cons, if_neg (by decide)])
/-- One step of blank. -/
theorem blank_cases (c : UInt8) (r : List UInt8) : (isWs c = true ∧ blankL (c :: r) = blankL r) ∨ (c = 37 ∧ blankL (c :: r) = blankL (r.dropWhile noLf)) ∨ (blankL (c :: r) = c :: r) := by
  rcases Bool.eq_false_or_eq_true (isWs c) with h | h
  · exact Or.inl ⟨h, blankL_ws h⟩
  · by_cases h2 : c = 37
    · subst h2
      exact Or.inr (Or.inl ⟨rfl, blankL_pct r⟩)
    · exact Or.inr (Or.inr (blankL_no h h2))
theorem takeWhile_drop (p : UInt8 → Bool) (l : List UInt8) : l = l.takeWhile p ++ l.dropWhile p := (List.takeWhile_append_dropWhile).symm
theorem dropWhile_app {p : UInt8 → Bool} {a b : List UInt8} (h : ∀ x ∈ a, p x = true) : (a ++ b).dropWhile p = b.dropWhile p := by
  induction a with
  | nil => rfl
  | cons x a ih =>
    rw [List.cons_append, List.dropWhile_cons, if_pos (h x List.mem_cons_self)]
    exact ih (fun y hy => h y (List.mem_cons_of_mem _ hy))
theorem takeWhile_mem (p : UInt8 → Bool) (l : List UInt8) : ∀ c ∈ l.takeWhile p, p c = true := by
  induction l with
  | nil => intro c hc; cases hc
  | cons x l ih =>
    intro c hc
    rw [List.takeWhile_cons] at hc
    split at hc
    · rename_i hx
      rcases List.mem_cons.1 hc with rfl | hc
      · exact hx
      · exact ih c hc
    · cases hc
/-- What is skipped is blank itself. -/
theorem blank_split : ∀ (k : Nat) (u : List UInt8), u.length ≤ k → ∃ p, u = p ++ blankL u ∧ blankL p = [] := by
  intro k
  induction k with
  | zero =>
    intro u hu
    obtain rfl : u = [] := List.length_eq_zero_iff.1 (by omega)
    exact ⟨[], by rw [blankL_nil]; rfl, blankL_nil⟩
  | succ k ih =>
    intro u hu
    cases u with
    | nil => exact ⟨[], by rw [blankL_nil]; rfl, blankL_nil⟩
    | cons c r =>
      rw [List.length_cons] at hu
      rcases blank_cases c r with ⟨h, e⟩ | ⟨h, e⟩ | e
      · obtain ⟨p, h1, h2⟩ := ih r (by omega)
        exact ⟨c :: p, by rw [e, List.cons_append, ← h1], by rw [blankL_ws h, h2]⟩
      · subst h
        have hle := dropWhile_le noLf r
        obtain ⟨p, h1, h2⟩ := ih (r.dropWhile noLf) (by omega)
        refine ⟨37 :: (r.takeWhile noLf ++ p), ?_, ?_⟩
        · rw [e, List.cons_append, List.append_assoc, ← h1, ← takeWhile_drop]
        · rw [blankL_pct, dropWhile_app (takeWhile_mem noLf r)]
          cases p with
          | nil => exact blankL_nil
          | cons d p =>
            have hd : noLf d = false := by
              have h3 := takeWhile_drop noLf r
              cases hq : r.dropWhile noLf with
              | nil => rw [hq] at h1; cases h1
              | cons x q =>
                rw [hq] at h1
                injection h1 with e1 e2
                subst e1
                have := List.head?_dropWhile_not noLf r
                rw [hq] at this
                simpa using this
            rw [List.dropWhile_cons, if_neg (by rw [hd]; simp), h2]
      · exact ⟨[], by rw [e]; rfl, blankL_nil⟩
theorem blank_idem (u : List UInt8) : blankL (blankL u) = blankL u := by
  have : ∀ k (u : List UInt8), u.length ≤ k → blankL (blankL u) = blankL u := by
    intro k
    induction k with
    | zero =>
      intro u hu
      obtain rfl : u = [] := List.length_eq_zero_iff.1 (by omega)
      rw [blankL_nil, blankL_nil]
    | succ k ih =>
      intro u hu
      cases u with
      | nil => rw [blankL_nil, blankL_nil]
      | cons c r =>
        rw [List.length_cons] at hu
        have hle := dropWhile_le noLf r
        rcases blank_cases c r with ⟨h, e⟩ | ⟨h, e⟩ | e
        · rw [e, ih r (by omega)]
        · rw [e, ih _ (by omega)]
        · rw [e, e]
  exact this _ u (Nat.le_refl _)
/-- Two texts with a line feed between them: blanks. -/
def joinL (l b : List UInt8) : List UInt8 := if l = [] then blankL b else l ++ 10 :: b
theorem dropWhile_lf (r b : List UInt8) : (r ++ 10 :: b).dropWhile noLf = r.dropWhile noLf ++ 10 :: b := by
  induction r with
  | nil => rfl
  | cons c r ih =>
    rw [List.cons_append, List.dropWhile_cons, List.dropWhile_cons]
    split
    · exact ih
    · rfl
theorem blank_lf (b : List UInt8) : blankL (10 :: b) = blankL b := blankL_ws (by decide)
theorem blank_join (u b : List UInt8) : blankL (u ++ 10 :: b) = joinL (blankL u) b := by
  have : ∀ k (u : List UInt8), u.length ≤ k → blankL (u ++ 10 :: b) = joinL (blankL u) b := by
    intro k
    induction k with
    | zero =>
      intro u hu
      obtain rfl : u = [] := List.length_eq_zero_iff.1 (by omega)
      rw [blankL_nil, joinL, if_pos rfl]
      exact blank_lf b
    | succ k ih =>
      intro u hu
      cases u with
      | nil =>
        rw [blankL_nil, joinL, if_pos rfl]
        exact blank_lf b
      | cons c r =>
        rw [List.length_cons] at hu
        have hle := dropWhile_le noLf r
        rw [List.cons_append]
        rcases Bool.eq_false_or_eq_true (isWs c) with h | h
        · rw [blankL_ws h, blankL_ws h, ih r (by omega)]
        · by_cases h2 : c = 37
          · subst h2
            rw [blankL_pct, blankL_pct, dropWhile_lf, ih _ (by omega)]
          · rw [blankL_no h h2, blankL_no h h2, joinL, if_neg (by simp)]
            rfl
  exact this _ u (Nat.le_refl _)
theorem takeWhile_lf {p : UInt8 → Bool} (h : p 10 = false) (r b : List UInt8) : (r ++ 10 :: b).takeWhile p = r.takeWhile p := by
  induction r with
  | nil => rw [List.nil_append, List.takeWhile_cons, if_neg (by simp [h])]; rfl
  | cons c r ih =>
    rw [List.cons_append, List.takeWhile_cons, List.takeWhile_cons, ih]
theorem wordL_lf {l : List UInt8} (hl : l ≠ []) (b : List UInt8) : wordL (l ++ 10 :: b) = wordL l := by
  cases l with
  | nil => exact absurd rfl hl
  | cons c r =>
    rw [List.cons_append]
    unfold wordL
    dsimp only
    rw [takeWhile_lf (p := isWord) (by decide), takeWhile_lf (p := isDigit) (by decide)]
    cases r with
    | nil =>
      have h1 : ((([] ++ 10 :: b : List UInt8).head?.map isDigit) = some true) = False := by simp; decide
      have h2 : ((([] ++ 10 :: b : List UInt8).head? = some 58) = False) := by simp
      have h3 : ((([] ++ 10 :: b : List UInt8).head? = some 46) = False) := by simp
      simp only [h1, h2, h3, and_false, or_false, if_false]
      simp
    | cons d r => rfl
/-- The tokens of what is left, without places; none: something is wrong. -/
def toks (l : List UInt8) : Option (List (Int × List UInt8 × Int)) :=
  if l = [] then some []
  else if h : (wordL l).1 = 0 then none
  else if (wordL l).1 = 2 then
    match Lib.parseIntB 64 (l.take (wordL l).2) with
    | .ok v => (toks (blankL (l.drop (wordL l).2))).map fun r => (2, l.take (wordL l).2, v) :: r
    | _ => none
  else (toks (blankL (l.drop (wordL l).2))).map fun r => ((wordL l).1, l.take (wordL l).2, 0) :: r
termination_by l.length
decreasing_by
  all_goals
    have h1 := wordL_pos h
    have h2 := blankL_le (l.drop (wordL l).2)
    rw [List.length_drop] at h2
    omega
/-- The value of a token's text; none: it is no number of 64 bits. -/
def valL (k : Int) (t : List UInt8) : Option Int := if k = 2 then (match Lib.parseIntB 64 t with | .ok v => some v | _ => none) else some 0
theorem toks_nil : toks [] = some [] := by rw [toks, if_pos rfl]
theorem toks_cons {l : List UInt8} (hl : l ≠ []) : toks l = if (wordL l).1 = 0 then none else (valL (wordL l).1 (l.take (wordL l).2)).bind fun v => (toks (blankL (l.drop (wordL l).2))).map fun r => ((wordL l).1, l.take (wordL l).2, v) :: r := by
  rw [toks, if_neg hl]
  by_cases h : (wordL l).1 = 0
  · rw [dif_pos h, if_pos h]
  · rw [dif_neg h, if_neg h]
    unfold valL
    by_cases h2 : (wordL l).1 = 2
    · rw [if_pos h2, if_pos h2, h2]
      split <;> rfl
    · rw [if_neg h2, if_neg h2]
      rfl
def stripT (t : Tok) : Int × List UInt8 × Int := (t.k, t.t, t.v)
theorem splitB_cons {n : Nat} {l : List UInt8} {acc : List Tok} (hl : l ≠ []) (ha : acc.length ≠ 4096) : splitB n l acc = if (wordL l).1 = 0 then ([], n - l.length, 5) else match valL (wordL l).1 (l.take (wordL l).2) with
    | some v => splitB n (blankL (l.drop (wordL l).2)) (acc ++ [⟨(wordL l).1, l.take (wordL l).2, v, ((n - l.length : Nat) : Int)⟩])
    | none => ([], n - l.length, 4) := by
  rw [splitB, if_neg hl, if_neg ha]
  by_cases h : (wordL l).1 = 0
  · rw [dif_pos h, if_pos h]
  · rw [dif_neg h, if_neg h]
    unfold valL
    by_cases h2 : (wordL l).1 = 2
    · rw [if_pos h2, if_pos h2, h2]
      split <;> rename_i e <;> split <;> rename_i e2 <;> simp_all
    · rw [if_neg h2, if_neg h2]
theorem splitB_nil (n : Nat) (acc : List Tok) : splitB n [] acc = (acc, 0, 0) := by rw [splitB, if_pos rfl]
/-- What Split tells, where there are not too many tokens. -/
theorem split_toks (n : Nat) : ∀ (k : Nat) (l : List UInt8) (acc : List Tok), l.length ≤ k → acc.length + l.length ≤ 4095 →
    ∀ r, splitB n l acc = r → (∀ ts, toks l = some ts → r.2.2 = 0 ∧ r.2.1 = 0 ∧ r.1.map stripT = acc.map stripT ++ ts) ∧ (toks l = none → r.2.2 ≠ 0 ∧ r.1 = []) := by
  intro k
  induction k with
  | zero =>
    intro l acc hl ha r hr
    obtain rfl : l = [] := List.length_eq_zero_iff.1 (by omega)
    rw [splitB_nil] at hr
    subst hr
    rw [toks_nil]
    refine ⟨fun ts h => ?_, fun h => by cases h⟩
    obtain rfl := Option.some.inj h
    exact ⟨rfl, rfl, by simp⟩
  | succ k ih =>
    intro l acc hl ha r hr
    by_cases h0 : l = []
    · subst h0
      rw [splitB_nil] at hr
      subst hr
      rw [toks_nil]
      refine ⟨fun ts h => ?_, fun h => by cases h⟩
      obtain rfl := Option.some.inj h
      exact ⟨rfl, rfl, by simp⟩
    · rw [splitB_cons h0 (by omega)] at hr
      rw [toks_cons h0]
      by_cases hw : (wordL l).1 = 0
      · rw [if_pos hw] at hr ⊢
        subst hr
        refine ⟨fun ts h => ?_, fun _ => ⟨?_, rfl⟩⟩
        · cases h
        · simp
      · rw [if_neg hw] at hr ⊢
        cases hv : valL (wordL l).1 (l.take (wordL l).2) with
        | none =>
          rw [hv] at hr
          subst hr
          refine ⟨fun ts h => ?_, fun _ => ⟨?_, rfl⟩⟩
          · cases h
          · simp
        | some v =>
          rw [hv] at hr
          have h1 := wordL_pos hw
          have h2 := blankL_le (l.drop (wordL l).2)
          rw [List.length_drop] at h2
          have h3 := ih _ (acc ++ [⟨(wordL l).1, l.take (wordL l).2, v, ((n - l.length : Nat) : Int)⟩]) (by omega : (blankL (l.drop (wordL l).2)).length ≤ k) (by rw [List.length_append, List.length_singleton]; omega) r hr
          cases hq : toks (blankL (l.drop (wordL l).2)) with
          | none =>
            rw [hq] at h3
            refine ⟨fun ts h => ?_, fun _ => h3.2 rfl⟩
            cases h
          | some ts =>
            rw [hq] at h3
            obtain ⟨h4, h5, h6⟩ := h3.1 ts rfl
            refine ⟨fun ts' h => ?_, ?_⟩
            rotate_left
            · intro h
              cases h
            have e : (((wordL l).1, l.take (wordL l).2, v) :: ts) = ts' := Option.some.inj h
            rw [← e]
            refine ⟨h4, h5, ?_⟩
            rw [h6, List.map_append, List.append_assoc]
            rfl
theorem joinL_len (l b : List UInt8) : (joinL l b).length ≤ l.length + b.length + 1 := by
  unfold joinL
  split
  · have := blankL_le b
    omega
  · simp
    omega
/-- The tokens of two texts with a line feed between them. -/
theorem toks_join (b : List UInt8) : ∀ (k : Nat) (l : List UInt8), l.length ≤ k → toks (joinL l b) = (toks l).bind fun x => (toks (blankL b)).map fun y => x ++ y := by
  intro k
  induction k with
  | zero =>
    intro l hl
    obtain rfl : l = [] := List.length_eq_zero_iff.1 (by omega)
    rw [joinL, if_pos rfl, toks_nil]
    cases toks (blankL b) <;> rfl
  | succ k ih =>
    intro l hl
    by_cases h0 : l = []
    · subst h0
      rw [joinL, if_pos rfl, toks_nil]
      cases toks (blankL b) <;> rfl
    · rw [joinL, if_neg h0, toks_cons (by simp), toks_cons h0, wordL_lf h0]
      by_cases hw : (wordL l).1 = 0
      · rw [if_pos hw, if_pos hw]
        rfl
      · rw [if_neg hw, if_neg hw]
        have h1 := wordL_pos hw
        have h2 := blankL_le (l.drop (wordL l).2)
        rw [List.length_drop] at h2
        rw [List.take_append_of_le_length h1.2, List.drop_append_of_le_length h1.2, blank_join]
        cases hv : valL (wordL l).1 (l.take (wordL l).2) with
        | none => rfl
        | some v =>
          have h3 := ih (blankL (l.drop (wordL l).2)) (by omega)
          simp only [Option.bind_some]
          rw [h3]
          cases toks (blankL (l.drop (wordL l).2)) with
          | none => rfl
          | some x => cases toks (blankL b) <;> rfl
theorem splitR_small {l : List UInt8} (h : l.length ≤ 8192) : splitR l = splitB l.length (blankL l) [] := by unfold splitR; rw [if_neg (by omega)]
theorem splitR_toks {l : List UInt8} (h : l.length ≤ 4095) : (∀ ts, toks (blankL l) = some ts → (splitR l).2.2 = 0 ∧ (splitR l).2.1 = 0 ∧ (splitR l).1.map stripT = ts) ∧ (toks (blankL l) = none → (splitR l).2.2 ≠ 0 ∧ (splitR l).1 = []) := by
  have h1 := blankL_le l
  rw [splitR_small (by omega)]
  have := split_toks l.length _ (blankL l) [] (Nat.le_refl _) (by simp; omega) _ rfl
  simpa using this
/-- Two texts, one behind the other with a line feed between them. -/
theorem both_plain {a b : List UInt8} (ha : a.length ≤ 2000) (hb : b.length ≤ 2000) :
    ((splitR a).2.2 = 0 → (splitR b).2.2 = 0 → (splitR (a ++ 10 :: b)).2.2 = 0 ∧ (splitR (a ++ 10 :: b)).1.map stripT = ((splitR a).1 ++ (splitR b).1).map stripT) ∧
    (((splitR a).2.2 ≠ 0 ∨ (splitR b).2.2 ≠ 0) → (splitR (a ++ 10 :: b)).2.2 ≠ 0) := by
  have h1 := splitR_toks (l := a) (by omega)
  have h2 := splitR_toks (l := b) (by omega)
  have h3 := splitR_toks (l := a ++ 10 :: b) (by simp; omega)
  have h4 := toks_join b _ (blankL a) (Nat.le_refl _)
  rw [← blank_join] at h4
  cases ea : toks (blankL a) with
  | none =>
    rw [ea] at h1 h4
    exact ⟨fun h => absurd h (h1.2 rfl).1, fun _ => (h3.2 h4).1⟩
  | some x =>
    rw [ea] at h1 h4
    cases eb : toks (blankL b) with
    | none =>
      rw [eb] at h2 h4
      exact ⟨fun _ h => absurd h (h2.2 rfl).1, fun _ => (h3.2 h4).1⟩
    | some y =>
      rw [eb] at h2 h4
      obtain ⟨i1, i2, i3⟩ := h1.1 x rfl
      obtain ⟨j1, j2, j3⟩ := h2.1 y rfl
      obtain ⟨k1, k2, k3⟩ := h3.1 _ h4
      refine ⟨fun _ _ => ⟨k1, by rw [k3, List.map_append, i3, j3]⟩, fun h => ?_⟩
      rcases h with h | h
      · exact absurd i1 h
      · exact absurd j1 h
/-- Where tokens stand: each one's bytes at its place, in order, and what is left between them is blank. -/
def placesOK (L : List UInt8) (last : Nat) : List Tok → Prop
  | [] => last ≤ L.length ∧ blankL (L.drop last) = []
  | t :: r => ∃ a : Nat, t.at_ = a ∧ last ≤ a ∧ a + t.t.length ≤ L.length ∧ t.t ≠ [] ∧ (L.drop a).take t.t.length = t.t ∧ blankL ((L.drop last).take (a - last)) = [] ∧ 1 ≤ t.k ∧ t.k ≤ 3 ∧ (t.k ≠ 2 → t.v = 0) ∧ placesOK L (a + t.t.length) r
theorem wordL_kind {l : List UInt8} (h : (wordL l).1 ≠ 0) : 1 ≤ (wordL l).1 ∧ (wordL l).1 ≤ 3 := by
  cases l with
  | nil => exact absurd rfl h
  | cons c r =>
    revert h
    unfold wordL
    dsimp only
    split
    · intro _; simp
    · split
      · intro _; simp
      · split
        · intro _; simp
        · split
          · intro _; simp
          · split
            · intro _; simp
            · intro h; exact absurd rfl h
theorem split_places (L : List UInt8) : ∀ (k : Nat) (l : List UInt8) (acc : List Tok) (last : Nat), l.length ≤ k → last ≤ L.length → l = blankL (L.drop last) →
    ∀ r, splitB L.length l acc = r → (r.2.2 = 0 → r.2.1 = 0 ∧ ∃ ts, r.1 = acc ++ ts ∧ placesOK L last ts) ∧ (r.2.2 ≠ 0 → r.1 = [] ∧ r.2.1 < L.length) := by
  intro k
  induction k with
  | zero =>
    intro l acc last hl hlast hb r hr
    obtain rfl : l = [] := List.length_eq_zero_iff.1 (by omega)
    rw [splitB_nil] at hr
    subst hr
    exact ⟨fun _ => ⟨rfl, [], by simp, hlast, hb.symm⟩, fun h => absurd rfl h⟩
  | succ k ih =>
    intro l acc last hl hlast hb r hr
    by_cases h0 : l = []
    · subst h0
      rw [splitB_nil] at hr
      subst hr
      exact ⟨fun _ => ⟨rfl, [], by simp, hlast, hb.symm⟩, fun h => absurd rfl h⟩
    · have hpos : 0 < l.length := List.length_pos_iff.2 h0
      obtain ⟨p, hp1, hp2⟩ := blank_split _ (L.drop last) (Nat.le_refl _)
      rw [← hb] at hp1
      have hlen := congrArg List.length hp1
      rw [List.length_drop, List.length_append] at hlen
      have hat : L.length - l.length = last + p.length := by omega
      by_cases ha : acc.length = 4096
      · rw [splitB, if_neg h0, if_pos ha] at hr
        subst hr
        refine ⟨fun h => ?_, fun _ => ⟨rfl, ?_⟩⟩
        · simp at h
        · show L.length - l.length < L.length
          omega
      rw [splitB_cons h0 ha] at hr
      by_cases hw : (wordL l).1 = 0
      · rw [if_pos hw] at hr
        subst hr
        refine ⟨fun h => ?_, fun _ => ⟨rfl, ?_⟩⟩
        · simp at h
        · show L.length - l.length < L.length
          omega
      · rw [if_neg hw] at hr
        cases hv : valL (wordL l).1 (l.take (wordL l).2) with
        | none =>
          rw [hv] at hr
          subst hr
          refine ⟨fun h => ?_, fun _ => ⟨rfl, ?_⟩⟩
          · simp at h
          · show L.length - l.length < L.length
            omega
        | some v =>
          rw [hv] at hr
          obtain ⟨h1, h1'⟩ := wordL_pos hw
          have h2 := blankL_le (l.drop (wordL l).2)
          rw [List.length_drop] at h2
          have htl : (l.take (wordL l).2).length = (wordL l).2 := by rw [List.length_take]; omega
          have hd : L.drop (L.length - l.length) = l := by
            rw [hat, ← List.drop_drop, hp1]
            simp
          have h3 := ih _ (acc ++ [⟨(wordL l).1, l.take (wordL l).2, v, ((L.length - l.length : Nat) : Int)⟩]) (L.length - l.length + (wordL l).2) (by omega : (blankL (l.drop (wordL l).2)).length ≤ k) (by omega) (by rw [← List.drop_drop, hd]) r hr
          refine ⟨fun h => ?_, h3.2⟩
          obtain ⟨h4, ts, h5, h6⟩ := h3.1 h
          refine ⟨h4, ⟨(wordL l).1, l.take (wordL l).2, v, ((L.length - l.length : Nat) : Int)⟩ :: ts, by rw [h5, List.append_assoc]; rfl, ?_⟩
          obtain ⟨k1, k2⟩ := wordL_kind hw
          refine ⟨L.length - l.length, rfl, ?_, ?_, ?_, ?_, ?_, k1, k2, fun hk => ?_, ?_⟩
          · show last ≤ L.length - l.length
            omega
          · show L.length - l.length + (l.take (wordL l).2).length ≤ L.length
            rw [htl]
            omega
          · intro e
            have := congrArg List.length e
            rw [htl] at this
            simp at this
            omega
          · show (L.drop (L.length - l.length)).take (l.take (wordL l).2).length = _
            rw [hd, htl]
          · show blankL ((L.drop last).take (L.length - l.length - last)) = []
            have e : L.length - l.length - last = p.length := by omega
            rw [e, hp1, List.take_left]
            exact hp2
          · unfold valL at hv
            rw [if_neg hk] at hv
            exact (Option.some.inj hv).symm
          · show placesOK L (L.length - l.length + (l.take (wordL l).2).length) ts
            rw [htl]
            exact h6
theorem places_plain (L : List UInt8) : ((splitR L).2.2 = 0 → (splitR L).2.1 = 0 ∧ placesOK L 0 (splitR L).1) ∧ ((splitR L).2.2 ≠ 0 → (splitR L).1 = [] ∧ ((splitR L).2.1 < L.length ∨ (splitR L).2.1 = 0)) := by
  by_cases h : 8192 < L.length
  · have e : splitR L = ([], 0, 3) := by unfold splitR; rw [if_pos h]
    rw [e]
    exact ⟨fun h => by simp at h, fun _ => ⟨rfl, Or.inr rfl⟩⟩
  · rw [splitR_small (by omega)]
    have h1 := split_places L _ (blankL L) [] 0 (Nat.le_refl _) (Nat.zero_le _) rfl _ rfl
    refine ⟨fun h => ?_, fun h => ⟨(h1.2 h).1, Or.inl (h1.2 h).2⟩⟩
    obtain ⟨h2, ts, h3, h4⟩ := h1.1 h
    rw [h3]
    exact ⟨h2, h4⟩
end Go.Proofs.YtpfhgkielakmoaaDoor

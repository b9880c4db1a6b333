/-
  What the parser makes of a text may be shown, and its text is at most twice as long.
-/
import Derived.Test.YtpfhgkielakmoaaGreatDoorVi
import Derived.Test.YtpfhgkielakmoaaGreatDoorVf
set_option linter.unusedSimpArgs false
set_option linter.unusedVariables false
namespace Go.Proofs.YtpfhgkielakmoaaGreatDoor

theorem dec_len : ∀ (k u : Nat), u < 10 ^ (k + 1) → (Lib.decDigits u).length ≤ k + 1
  | 0, u, h => by
    rw [Lib.decDigits, dif_pos (by omega)]
    exact Nat.le_refl _
  | k + 1, u, h => by
    by_cases h1 : u < 10
    · rw [Lib.decDigits, dif_pos h1]
      show 1 ≤ _
      omega
    · rw [Lib.decDigits, dif_neg h1, List.length_append]
      have h2 : u / 10 < 10 ^ (k + 1) := by
        rw [Nat.pow_succ] at h
        omega
      have := dec_len k (u / 10) h2
      show _ + 1 ≤ _
      omega
theorem uint_lt (M : Nat) : ∀ (l : List UInt8) (acc u : Nat), Lib.parseUintM M acc l = .ok u → u < (acc + 1) * 10 ^ l.length
  | [], acc, u, h => by
    unfold Lib.parseUintM at h
    injection h with h
    subst h
    rw [List.length_nil, Nat.pow_zero]
    omega
  | c :: r, acc, u, h => by
    unfold Lib.parseUintM at h
    split at h
    · split at h
      · cases h
      · split at h
        · cases h
        · have h1 := uint_lt M r _ u h
          rw [List.length_cons, Nat.pow_succ, Nat.mul_comm (10 ^ r.length) 10, ← Nat.mul_assoc]
          refine Nat.lt_of_lt_of_le h1 (Nat.mul_le_mul_right _ ?_)
          omega
    · cases h
/-- A number's token: its number, and that its own text is not longer. -/
theorem alone_num {t : List UInt8} {v : Int} (h : Alone (2, t, v)) : I64 v ∧ (Lib.itoa v).length ≤ t.length := by
  obtain ⟨h1, _, h3⟩ := h
  dsimp only at h1 h3
  unfold valL at h3
  rw [if_pos rfl] at h3
  cases t with
  | nil => cases h3
  | cons c r =>
    have hc : c.toNat ≠ 43 := by
      intro hc
      have hc1 : c = 43 := by
        apply UInt8.toNat_inj.1
        exact hc
      subst hc1
      unfold wordL at h1
      dsimp only at h1
      rw [if_neg (by decide), if_neg (by decide), if_neg (by rintro ⟨h, _⟩; exact absurd h (by decide)), if_neg (by rintro (⟨h, _⟩ | ⟨h, _⟩) <;> exact absurd h (by decide)), if_neg (by decide)] at h1
      injection h1 with h1 _
      exact absurd h1 (by decide)
    unfold Lib.parseIntB at h3
    dsimp only at h3
    by_cases hn : c.toNat = 45
    · rw [if_pos (Or.inr hn)] at h3
      unfold Lib.parseUintB at h3
      by_cases hr : r = []
      · rw [if_pos hr] at h3
        cases h3
      · rw [if_neg hr] at h3
        rcases hu : Lib.parseUintM (2 ^ 64 - 1) 0 r with u | _ | _
        · rw [hu] at h3
          dsimp only at h3
          rw [if_neg (by rintro ⟨h, _⟩; exact h hn)] at h3
          by_cases hb : c.toNat = 45 ∧ 2 ^ (64 - 1) < u
          · rw [if_pos hb] at h3
            cases h3
          · rw [if_neg hb, if_pos hn] at h3
            injection h3 with h3
            subst h3
            have hu2 : ¬ 9223372036854775808 < u := fun h => hb ⟨hn, h⟩
            have hlt := uint_lt _ _ _ _ hu
            obtain ⟨d, q, rfl⟩ : ∃ d q, r = d :: q := by
              cases r with
              | nil => exact absurd rfl hr
              | cons d q => exact ⟨d, q, rfl⟩
            rw [List.length_cons, Nat.zero_add, Nat.one_mul] at hlt
            have hd := dec_len q.length u hlt
            refine ⟨⟨by omega, by omega⟩, ?_⟩
            unfold Lib.itoa
            by_cases h0 : -(u : Int) < 0
            · rw [if_pos h0, List.length_cons, List.length_cons, List.length_cons]
              rw [show (-(u : Int)).natAbs = u by omega]
              omega
            · rw [if_neg h0, List.length_cons, List.length_cons]
              rw [show (-(u : Int)).toNat = 0 by omega]
              rw [Lib.decDigits, dif_pos (by omega)]
              show 1 ≤ _
              omega
        · rw [hu] at h3; cases h3
        · rw [hu] at h3; cases h3
    · rw [if_neg (by rintro (h | h); exact hc h; exact hn h)] at h3
      unfold Lib.parseUintB at h3
      rw [if_neg (by simp)] at h3
      rcases hu : Lib.parseUintM (2 ^ 64 - 1) 0 (c :: r) with u | _ | _
      · rw [hu] at h3
        dsimp only at h3
        by_cases hb : ¬ c.toNat = 45 ∧ 2 ^ (64 - 1) ≤ u
        · rw [if_pos hb] at h3
          cases h3
        · rw [if_neg hb, if_neg (by rintro ⟨h, _⟩; exact hn h), if_neg hn] at h3
          injection h3 with h3
          subst h3
          have hu2 : ¬ 9223372036854775808 ≤ u := fun h => hb ⟨hn, h⟩
          have hlt := uint_lt _ _ _ _ hu
          rw [List.length_cons, Nat.zero_add, Nat.one_mul] at hlt
          have hd := dec_len r.length u hlt
          refine ⟨⟨by omega, by omega⟩, ?_⟩
          unfold Lib.itoa
          rw [if_neg (by omega), List.length_cons]
          rw [show ((u : Int)).toNat = u by omega]
          exact hd
      · rw [hu] at h3; cases h3
      · rw [hu] at h3; cases h3
/-- Tokens that are tokens, and not too many bytes of them. -/
def AT (l : List Tok) : Prop := (∀ t ∈ l, Alone (stripT t)) ∧ wt l ≤ 8000
theorem AT.tail {t : Tok} {l : List Tok} (h : AT (t :: l)) : AT l := ⟨fun u hu => h.1 u (List.mem_cons_of_mem _ hu), by have := h.2; rw [wt_cons] at this; omega⟩
/-- What a part of the parser makes of so many bytes of tokens. -/
def Sw {α : Type} (f : Pm α) (p : α → Nat → Prop) : Prop := ∀ l x r, AT l → f l = .ok x r → AT r ∧ ∃ n, wt l = n + wt r ∧ p x n
theorem Sw.mono {α : Type} {f : Pm α} {p q : α → Nat → Prop} (h : Sw f p) (hp : ∀ x n, p x n → q x n) : Sw f q := fun l x r ha e => by
  obtain ⟨h1, n, h2, h3⟩ := h l x r ha e
  exact ⟨h1, n, h2, hp x n h3⟩
theorem sw_ret {α : Type} {p : α → Nat → Prop} {x : α} (h : p x 0) : Sw (pret x) p := fun l y r ha e => by
  unfold pret at e
  injection e with e1 e2
  subst e1 e2
  exact ⟨ha, 0, by omega, h⟩
theorem sw_wrong {α : Type} {p : α → Nat → Prop} : Sw (wrongP : Pm α) p := fun l x r _ e => by cases e
theorem sw_bind {α β : Type} {f : Pm α} {g : α → Pm β} {p : α → Nat → Prop} {q : β → Nat → Prop} (hf : Sw f p) (hg : ∀ x a, p x a → Sw (g x) (fun y n => q y (a + n))) : Sw (pbind f g) q := fun l y r ha e => by
  obtain ⟨x, s, h1, h2⟩ := bind_ok e
  obtain ⟨a1, n, a2, a3⟩ := hf l x s ha h1
  obtain ⟨b1, m, b2, b3⟩ := hg x n a3 s y r a1 h2
  exact ⟨b1, n + m, by omega, b3⟩
theorem sw_if {α : Type} {b : Prop} [Decidable b] {f g : Pm α} {p : α → Nat → Prop} (hf : b → Sw f p) (hg : ¬ b → Sw g p) : Sw (if b then f else g) p := by
  by_cases h : b
  · rw [if_pos h]
    exact hf h
  · rw [if_neg h]
    exact hg h
theorem sw_may (s : List UInt8) : Sw (mayP s) (fun b n => (b = true ∧ n = s.length) ∨ (b = false ∧ n = 0)) := fun l b r ha e => by
  unfold mayP at e
  split at e
  · rename_i h
    injection e with e1 e2
    subst e1 e2
    cases l with
    | nil => exact Bool.noConfusion h
    | cons t l =>
      have ht : t.t = s := eq_of_beq h
      exact ⟨ha.tail, t.t.length, wt_cons t l, Or.inl ⟨rfl, by rw [ht]⟩⟩
  · injection e with e1 e2
    subst e1 e2
    exact ⟨ha, 0, by omega, Or.inr ⟨rfl, rfl⟩⟩
theorem sw_take (s : List UInt8) : Sw (takeP s) (fun _ n => n = s.length) := fun l b r ha e => by
  unfold takeP at e
  split at e
  · rename_i h
    injection e with e1 e2
    subst e2
    cases l with
    | nil => exact Bool.noConfusion h
    | cons t l =>
      have ht : t.t = s := eq_of_beq h
      exact ⟨ha.tail, t.t.length, wt_cons t l, by rw [ht]⟩
  · cases e
theorem sw_takes : ∀ (ss : List (List UInt8)), Sw (takesP ss) (fun _ n => n = (ss.map List.length).sum)
  | [] => sw_ret rfl
  | s :: r => sw_bind (sw_take s) fun _ a ha => (sw_takes r).mono fun _ n hn => by
    rw [List.map_cons, List.sum_cons, ha, hn]
theorem kind_one {l : List Tok} (h : kindP l = 1) : ∃ t r, l = t :: r ∧ t.k = 1 ∧ wordP t.t = false := by
  cases l with
  | nil => cases h
  | cons t r =>
    unfold kindP at h
    dsimp only at h
    split at h
    · cases h
    · rename_i hw
      refine ⟨t, r, rfl, h, ?_⟩
      cases hq : wordP t.t with
      | false => rfl
      | true => exact absurd ⟨h, hq⟩ hw
theorem kind_two {l : List Tok} (h : kindP l = 2) : ∃ t r, l = t :: r ∧ t.k = 2 := by
  cases l with
  | nil => cases h
  | cons t r =>
    unfold kindP at h
    dsimp only at h
    split at h
    · cases h
    · exact ⟨t, r, rfl, h⟩
theorem at_name {t : Tok} {r : List Tok} (ha : AT (t :: r)) (hk : t.k = 1) (hw : wordP t.t = false) : nameB t.t = true := by
  have h1 := ha.1 t List.mem_cons_self
  have h2 := ha.2
  rw [wt_cons] at h2
  obtain ⟨k, s, v, p⟩ := t
  have hk' : k = 1 := hk
  subst hk'
  have hv : v = 0 := alone_val (k := 1) h1 (by decide)
  subst hv
  refine nameB_iff.2 ⟨⟨h1, hw⟩, ?_⟩
  have h3 : s.length + wt r ≤ 8000 := h2
  show s.length ≤ 8176
  omega
theorem at_num {t : Tok} {r : List Tok} (ha : AT (t :: r)) (hk : t.k = 2) : I64 t.v ∧ (Lib.itoa t.v).length ≤ t.t.length := by
  have h1 := ha.1 t List.mem_cons_self
  obtain ⟨k, s, v, p⟩ := t
  have hk' : k = 2 := hk
  subst hk'
  exact alone_num h1
theorem sw_name : Sw nameP (fun s n => nameB s = true ∧ s.length = n) := fun l x r ha e => by
  unfold nameP at e
  split at e
  · rename_i h
    injection e with e1 e2
    subst e1 e2
    obtain ⟨t, r, rfl, hk, hw⟩ := kind_one h
    exact ⟨ha.tail, t.t.length, wt_cons t r, at_name ha hk hw, rfl⟩
  · cases e
theorem sw_number : Sw numberP (fun v n => I64 v ∧ (Lib.itoa v).length ≤ n) := fun l x r ha e => by
  unfold numberP at e
  split at e
  · rename_i h
    injection e with e1 e2
    subst e1 e2
    obtain ⟨t, r, rfl, hk⟩ := kind_two h
    exact ⟨ha.tail, t.t.length, wt_cons t r, at_num ha hk⟩
  · cases e
theorem sw_exact (v : Int) : Sw (exactP v) (fun _ n => (Lib.itoa v).length ≤ n) := fun l x r ha e => by
  unfold exactP at e
  split at e
  · rename_i h
    injection e with e1 e2
    subst e2
    obtain ⟨t, r, rfl, hk⟩ := kind_two h.1
    have hv : t.v = v := h.2
    refine ⟨ha.tail, t.t.length, wt_cons t r, ?_⟩
    rw [← hv]
    exact (at_num ha hk).2
  · cases e
theorem is_of {s : List UInt8} {l : List Tok} (h : isP s l = true) : ∃ t r, l = t :: r ∧ t.t = s := by
  cases l with
  | nil => exact Bool.noConfusion h
  | cons t r => exact ⟨t, r, rfl, eq_of_beq h⟩
def PlainP (x : Ex) : Prop := x.l = [] ∧ I64 x.n ∧ x.k ≠ 4 ∧ (plainS x).2 = true
theorem i64_0 : I64 0 := ⟨by decide, by decide⟩
theorem i64_1 : I64 1 := ⟨by decide, by decide⟩
theorem sw_plain : Sw plainP (fun x n => PlainP x ∧ (plainS x).1.length ≤ n) := fun l x r ha e => by
  unfold plainP at e
  split at e
  · rename_i h
    injection e with e1 e2
    subst e1 e2
    obtain ⟨t, r, rfl, hk⟩ := kind_two h
    obtain ⟨h1, h2⟩ := at_num ha hk
    exact ⟨ha.tail, t.t.length, wt_cons t r, ⟨rfl, h1, (show (1 : Int) ≠ 4 by decide), rfl⟩, h2⟩
  · split at e
    · rename_i h
      injection e with e1 e2
      subst e1 e2
      obtain ⟨t, r, rfl, hk, hw⟩ := kind_one h
      have hn := at_name ha hk hw
      have hp : plainS ⟨3, 0, t.t, []⟩ = (t.t, true) := by
        show plain0S ⟨3, 0, t.t, 0⟩ = _
        unfold plain0S
        simp [hn]
      refine ⟨ha.tail, t.t.length, wt_cons t r, ⟨rfl, i64_0, (show (3 : Int) ≠ 4 by decide), ?_⟩, ?_⟩
      · show (plainS ⟨3, 0, t.t, []⟩).2 = true
        rw [hp]
      · show (plainS ⟨3, 0, t.t, []⟩).1.length ≤ _
        rw [hp]
        exact Nat.le_refl _
    · split at e
      · rename_i h
        injection e with e1 e2
        subst e1 e2
        obtain ⟨t, r, rfl, ht⟩ := is_of h
        refine ⟨ha.tail, t.t.length, wt_cons t r, ⟨rfl, i64_1, (show (2 : Int) ≠ 4 by decide), rfl⟩, ?_⟩
        rw [ht]
        exact Nat.le_refl 4
      · split at e
        · rename_i h
          injection e with e1 e2
          subst e1 e2
          obtain ⟨t, r, rfl, ht⟩ := is_of h
          refine ⟨ha.tail, t.t.length, wt_cons t r, ⟨rfl, i64_0, (show (2 : Int) ≠ 4 by decide), rfl⟩, ?_⟩
          rw [ht]
          exact Nat.le_refl 5
        · cases e
/-- The bytes of texts with two more behind each. -/
def J (S : Ex → TX) (xs : List Ex) : Nat := (xs.map fun x => (S x).1.length + 2).sum
theorem J_snoc (S : Ex → TX) (xs : List Ex) (x : Ex) : J S (xs ++ [x]) = J S xs + ((S x).1.length + 2) := by
  unfold J
  rw [List.map_append, List.sum_append]
  rfl
theorem join_sum : ∀ (ts : List (List UInt8)), ts ≠ [] → (Lib.join ts [44, 32]).length + 2 = (ts.map fun t => t.length + 2).sum
  | [], h => absurd rfl h
  | [a], _ => by simp [Lib.join, List.intercalate]
  | a :: b :: r, _ => by
    have := join_sum (b :: r) (by simp)
    rw [join_two, List.length_append, List.length_append, List.map_cons, List.sum_cons]
    have h2 : ([44, 32] : List UInt8).length = 2 := rfl
    omega
theorem joinS_good {S : Ex → TX} {xs : List Ex} (hl : xs.length ≤ 64) (h : ∀ x ∈ xs, (S x).2 = true) : joinS (xs.map S) = (Lib.join (xs.map fun y => (S y).1) [44, 32], true) := by
  unfold joinS
  rw [if_neg (by rw [List.length_map]; omega), if_pos, List.map_map]
  · rfl
  · rw [List.all_eq_true]
    intro p hp
    obtain ⟨x, hx, rfl⟩ := List.mem_map.1 hp
    exact h x hx
theorem joinS_J {S : Ex → TX} {xs : List Ex} (hl : xs.length ≤ 64) (h : ∀ x ∈ xs, (S x).2 = true) {n : Nat} (hJ : J S xs ≤ 2 * n) (hn : 1 ≤ n) : (joinS (xs.map S)).2 = true ∧ (joinS (xs.map S)).1.length + 2 ≤ 2 * n := by
  rw [joinS_good hl h]
  refine ⟨rfl, ?_⟩
  dsimp only
  cases xs with
  | nil =>
    show 0 + 2 ≤ _
    omega
  | cons x r =>
    rw [join_sum _ (by simp), List.map_map]
    exact hJ
theorem sw_exprsGo {en : List UInt8} (he : en.length = 1) {one : Pm Ex} {S : Ex → TX} {q : Ex → Prop} (h1 : Sw one (fun x n => (q x ∧ (S x).2 = true) ∧ (S x).1.length ≤ 2 * n)) :
    ∀ (k : Nat) (acc : List Ex), acc.length + k ≤ 64 → (∀ x ∈ acc, q x ∧ (S x).2 = true) → Sw (exprsGo en one k acc) (fun xs n => (xs.length ≤ 64 ∧ ∀ x ∈ xs, q x ∧ (S x).2 = true) ∧ J S xs ≤ J S acc + 2 * n ∧ 1 ≤ n)
  | 0, acc, _, _ => fun l x r _ e => by cases e
  | k + 1, acc, hk, hq => by
    refine sw_bind h1 fun x a ⟨hx, hl⟩ => sw_bind (sw_may en) fun b c hc => ?_
    have h2 : ∀ y ∈ acc ++ [x], q y ∧ (S y).2 = true := fun y hy => by
      rcases List.mem_append.1 hy with hy | hy
      · exact hq y hy
      · rw [List.mem_singleton.1 hy]
        exact hx
    have h3 : (acc ++ [x]).length + k ≤ 64 := by rw [List.length_append, List.length_singleton]; omega
    refine sw_if (fun hb => ?_) (fun hb => ?_)
    · have hc1 : c = 1 := by
        rcases hc with hc | hc
        · rw [hc.2, he]
        · rw [hc.1] at hb
          exact Bool.noConfusion hb
      exact sw_ret ⟨⟨by omega, h2⟩, by rw [J_snoc]; omega, by omega⟩
    · refine sw_bind (sw_take [44]) fun _ d hd => (sw_exprsGo he h1 k _ h3 h2).mono fun xs n hn => ⟨hn.1, ?_, by omega⟩
      have hd1 : d = 1 := hd
      have := hn.2.1
      rw [J_snoc] at this
      omega
theorem sw_exprs {en : List UInt8} (he : en.length = 1) {one : Pm Ex} {S : Ex → TX} {q : Ex → Prop} (h1 : Sw one (fun x n => (q x ∧ (S x).2 = true) ∧ (S x).1.length ≤ 2 * n)) :
    Sw (exprsP en one) (fun xs n => (xs.length ≤ 64 ∧ ∀ x ∈ xs, q x ∧ (S x).2 = true) ∧ (joinS (xs.map S)).2 = true ∧ (joinS (xs.map S)).1.length + 2 ≤ 2 * n) := by
  have hgo : Sw (exprsP en one) (fun xs n => (xs.length ≤ 64 ∧ ∀ x ∈ xs, q x ∧ (S x).2 = true) ∧ J S xs ≤ 2 * n ∧ 1 ≤ n) := by
    refine sw_bind (sw_may en) fun b c hc => sw_if (fun hb => ?_) (fun hb => ?_)
    · have hc1 : c = 1 := by
        rcases hc with hc | hc
        · rw [hc.2, he]
        · rw [hc.1] at hb
          exact Bool.noConfusion hb
      exact sw_ret ⟨⟨Nat.zero_le _, fun _ h => absurd h List.not_mem_nil⟩, Nat.zero_le _, by omega⟩
    · refine (sw_exprsGo he h1 64 [] (Nat.le_refl _) fun _ h => absurd h List.not_mem_nil).mono fun xs n hn => ⟨hn.1, ?_, by omega⟩
      have := hn.2.1
      have h0 : J S [] = 0 := rfl
      omega
  exact hgo.mono fun xs n hn => ⟨hn.1, joinS_J hn.1.1 (fun x hx => (hn.1.2 x hx).2) hn.2.1 hn.2.2⟩
theorem sw_plain2 : Sw plainP (fun x n => ((x.l = [] ∧ I64 x.n) ∧ (plainS x).2 = true) ∧ (plainS x).1.length ≤ 2 * n) := sw_plain.mono fun x n h => ⟨⟨⟨h.1.1, h.1.2.1⟩, h.1.2.2.2⟩, by have := h.2; omega⟩
theorem rngE_plain {x : Ex} (h1 : x.l = []) (h2 : I64 x.n) : RngE x := ⟨h2, fun y hy => by rw [h1] at hy; exact absurd hy List.not_mem_nil⟩
theorem sw_expr : Sw exprP (fun x n => (RngE x ∧ (exprS x).2 = true) ∧ (exprS x).1.length ≤ 2 * n) := by
  refine sw_bind (sw_may [91]) fun b c hc => sw_if (fun hb => ?_) (fun hb => ?_)
  · refine sw_bind (sw_exprs (S := plainS) rfl sw_plain2) fun xs n hn => ?_
    have he : exprS ⟨4, 0, [], xs.map Ex.low⟩ = (91 :: ((joinS (xs.map plainS)).1 ++ [93]), (joinS (xs.map plainS)).2 && true) := by
      have hm : (xs.map Ex.low).map plain0S = xs.map plainS := by rw [List.map_map]; rfl
      unfold exprS
      rw [if_neg (fun h => h rfl)]
      dsimp only
      rw [hm]
      rfl
    refine sw_ret ⟨⟨⟨i64_0, fun y hy => ?_⟩, ?_⟩, ?_⟩
    · obtain ⟨x, hx, rfl⟩ := List.mem_map.1 hy
      exact (hn.1.2 x hx).1.2
    · rw [he, hn.2.1]
      rfl
    · rw [he, List.length_cons, List.length_append]
      show _ + 1 + 1 ≤ _
      have := hn.2.2
      omega
  · refine sw_plain.mono fun x n hx => ?_
    have he : exprS x = plainS x := if_pos hx.1.2.2.1
    rw [he]
    exact ⟨⟨rngE_plain hx.1.1 hx.1.2.1, hx.1.2.2.2⟩, by have := hx.2; omega⟩
end Go.Proofs.YtpfhgkielakmoaaGreatDoor

/-
  Items with a text: variables, what is asked, constraints.
-/
import Derived.Test.YtpfhgkielakmoaaGreatDoorVf
set_option linter.unusedSimpArgs false
set_option linter.unusedVariables false
namespace Go.Proofs.YtpfhgkielakmoaaGreatDoor

theorem num_not {n : Int} (h : I64 n) {s : List UInt8} (hs : (wordL s).1 ≠ 2) : Lib.itoa n ≠ s := fun e => by
  have h1 := (itoa_alone n h.1 h.2).1
  rw [show (2, Lib.itoa n, n).2.1 = s from e] at h1
  exact hs (by rw [h1])
theorem Spk.nums {ns : List Int} (h : ∀ n ∈ ns, I64 n) : Spk (Lib.join (ns.map Lib.itoa) [44, 32]) (inter aComma (ns.map fun n => [aN n])) := by
  have := Spk.join (l := ns.map fun n => (Lib.itoa n, [aN n])) (fun g hg => by
    obtain ⟨n, hn, rfl⟩ := List.mem_map.1 hg
    exact Spk.one (x := aN n) (itoa_alone n (h n hn).1 (h n hn).2))
  simpa [List.map_map, Function.comp_def] using this
theorem domGo_of : ∀ (ns : List Int) (acc : List (Int × Int)) (k : Nat), ns ≠ [] → ns.length ≤ k → ∀ r,
    domGo k acc (inter (bare aComma) (ns.map fun n => [bare (aN n)]) ++ bare (aS 125) :: r) = .ok (acc ++ ns.map fun n => (n, n)) r
  | [], _, _, h, _, _ => absurd rfl h
  | [n], acc, k, _, hk, r => by
    obtain ⟨j, rfl⟩ : ∃ j, k = j + 1 := ⟨k - 1, by simp at hk; omega⟩
    show pbind numberP _ (bare (aN n) :: bare (aS 125) :: r) = _
    rw [bind_of (number_of n _), bind_of (may_yes (s := [125]) (t := bare (aS 125)) rfl)]
    rfl
  | n :: m :: q, acc, k, _, hk, r => by
    obtain ⟨j, rfl⟩ : ∃ j, k = j + 1 := ⟨k - 1, by simp at hk; omega⟩
    have ih := domGo_of (m :: q) (acc ++ [(n, n)]) j (by simp) (by simp at hk ⊢; omega) r
    show pbind numberP _ (bare (aN n) :: bare aComma :: (inter (bare aComma) ((m :: q).map fun n => [bare (aN n)]) ++ bare (aS 125) :: r)) = _
    rw [bind_of (number_of n _), bind_of (may_no (s := [125]) (t := bare aComma) (by decide)), if_neg (by decide), bind_of (take_yes (s := [44]) (t := bare aComma) rfl), ih]
    simp
def domT (x : It) : List T3 :=
  if x.bool = true then [aW wBool]
  else match x.dom with
    | [r] => [aN r.1, aDots, aN r.2]
    | d => aS 123 :: (inter aComma (d.map fun r => [aN r.1]) ++ [aS 125])
/-- A domain that has a text. -/
theorem dom_ok {x : It} (hr : ∀ r ∈ x.dom, I64 r.1 ∧ I64 r.2) (h : (domS x).2 = true) : x.dom.length ≤ 256 ∧ (∀ s us, Sp (58 :: s) us → Sp ((domS x).1 ++ 58 :: s) (domT x ++ us)) ∧ ∀ r, domP ((domT x).map bare ++ r) = .ok (x.bool, x.dom) r := by
  obtain ⟨k, nm, b, d, z, o, v, a⟩ := x
  unfold domS at h ⊢
  unfold domT
  dsimp only at h hr ⊢
  cases b with
  | true =>
    rw [if_pos rfl] at h ⊢
    rw [if_pos rfl]
    have hd : d = [] := by simpa using h
    subst hd
    refine ⟨Nat.zero_le _, fun s us hs => sp_word (alone_word (by decide)) (by decide) hs, fun r => ?_⟩
    unfold domP
    show pbind (mayP wBool) _ (bare (aW wBool) :: r) = _
    rw [bind_of (may_yes (s := wBool) (t := bare (aW wBool)) rfl)]
    rfl
  | false =>
    rw [if_neg (by decide)] at h ⊢
    rw [if_neg (by decide)]
    match d, hr, h with
    | [r], hr, _ =>
      obtain ⟨h1, h2⟩ := hr r List.mem_cons_self
      refine ⟨by simp, fun s us hs => ?_, fun q => ?_⟩
      · have := sp_num h1 (c := 46) (by decide) (sp_dots (sp_num h2 (c := 58) (by decide) hs))
        simpa using this
      · unfold domP
        show pbind (mayP wBool) _ (bare (aN r.1) :: bare aDots :: bare (aN r.2) :: q) = _
        rw [bind_of (may_no (s := wBool) (t := bare (aN r.1)) (num_not h1 (by decide))), if_neg (by decide), bind_of (may_no (s := [123]) (t := bare (aN r.1)) (num_not h1 (by decide))), if_neg (by decide), bind_of (number_of r.1 _), bind_of (take_yes (s := [46, 46]) (t := bare aDots) rfl), bind_of (number_of r.2 _)]
        rfl
    | [], hr, h =>
      simp at h
    | r :: r' :: d, hr, h =>
      dsimp only at h ⊢
      by_cases h1 : r :: r' :: d = [] ∨ 256 < (r :: r' :: d).length
      · rw [if_pos h1] at h
        cases h
      · rw [if_neg h1] at h ⊢
        by_cases h2 : (r :: r' :: d).all (fun r => r.1 == r.2) = true
        · rw [if_pos h2]
          have hlen : (r :: r' :: d).length ≤ 256 := by
            rcases Nat.lt_or_ge 256 (r :: r' :: d).length with h | h
            · exact absurd (Or.inr h) h1
            · exact h
          generalize hd : r :: r' :: d = D at *
          have hne : D ≠ [] := by rw [← hd]; simp
          refine ⟨hlen, fun s us hs => ?_, fun q => ?_⟩
          · have e1 := Spk.nums (ns := D.map (·.1)) (fun n hn => by
              obtain ⟨y, hy, rfl⟩ := List.mem_map.1 hn
              exact (hr y hy).1)
            have e2 := e1 (125 :: 58 :: s) _ ⟨125, _, rfl, Or.inr (Or.inr (Or.inr (Or.inr rfl)))⟩ (sp_sign (by decide) (by decide) hs)
            have e3 := sp_sign (c := 123) (by decide) (by decide) e2
            simpa [List.map_map, Function.comp_def] using e3
          · have e4 : (aS 123 :: (inter aComma (D.map fun r => [aN r.1]) ++ [aS 125])).map bare ++ q = bare (aS 123) :: (inter (bare aComma) ((D.map (·.1)).map fun n => [bare (aN n)]) ++ bare (aS 125) :: q) := by
              rw [List.map_cons, List.map_append, inter_map]
              simp [List.map_map, Function.comp_def]
            rw [e4]
            unfold domP
            rw [bind_of (may_no (s := wBool) (t := bare (aS 123)) (by decide)), if_neg (by decide), bind_of (may_yes (s := [123]) (t := bare (aS 123)) rfl), if_pos rfl, bind_of (domGo_of (D.map (·.1)) [] 256 (by simpa using hne) (by simpa using hlen) q)]
            show PR.ok (false, [] ++ (D.map (·.1)).map fun n => (n, n)) q = _
            congr 2
            rw [List.nil_append, List.map_map]
            rw [List.map_congr_left (g := id) fun y hy => by
              have := List.all_eq_true.1 h2 y hy
              obtain ⟨y1, y2⟩ := y
              have : y1 = y2 := by simpa using this
              subst this
              rfl]
            simp
        · rw [if_neg h2] at h
          cases h
def varT (x : It) : List T3 := aW wVar :: (domT x ++ aS 58 :: aW x.name :: ((if x.out then [aCC, aW wOutVar] else []) ++ ((if x.vals.isEmpty then [] else aS 61 :: V x) ++ [aS 59])))
theorem var_ok {x : It} (hk : x.k = 2) (hr : RngI x) (h : (varS x).2 = true) : LowI x ∧ (∀ s us, Sp s us → Sp ((varS x).1 ++ 10 :: s) (varT x ++ us)) ∧ ∀ r, itemP ((varT x).map bare ++ r) = .ok x (bare (aS 59) :: r) := by
  unfold varS at h ⊢
  dsimp only at h ⊢
  obtain ⟨h0, h1, h2, h3, h4, h5⟩ : (domS x).2 = true ∧ (joinS (x.vals.map plainS)).2 = true ∧ x.vals.length ≤ 1 ∧ x.size = 0 ∧ x.ask = 0 ∧ nameB x.name = true := by simpa [Bool.and_eq_true] using h
  obtain ⟨hnm, _⟩ := nameB_iff.1 h5
  have hn : ∀ y ∈ x.vals, I64 y.n := fun y hy => (hr.2.2 y hy).1
  obtain ⟨p1, p2, p3, _⟩ := plains_ok hn h1
  obtain ⟨d1, d2, d3⟩ := dom_ok hr.2.1 h0
  refine ⟨⟨d1, p1, fun z hz => lowE_nil (p2 z hz)⟩, fun s us hs => ?_, fun r => ?_⟩
  · -- behind the name, or behind output_var
    have tail : ∀ w, Alone (aW w) → Sp (w ++ ((if x.vals.isEmpty then [] else [32, 61, 32] ++ (joinS (x.vals.map plainS)).1) ++ 59 :: 10 :: s)) (aW w :: ((if x.vals.isEmpty then [] else aS 61 :: V x) ++ aS 59 :: us)) := fun w hw => by
      cases hv : x.vals.isEmpty with
      | true => exact sp_word hw (c := 59) (by decide) (sp_end hs)
      | false =>
        have e1 := p3 (59 :: 10 :: s) _ ⟨59, _, rfl, Or.inr (Or.inr (Or.inr (Or.inl rfl)))⟩ (sp_end hs)
        have e2 := sp_word_sp hw (sp_sign_sp (c := 61) (by decide) e1)
        simpa [V] using e2
    have mid : Sp (x.name ++ ((if x.out then [32, 58, 58, 32] ++ wOutVar else []) ++ ((if x.vals.isEmpty then [] else [32, 61, 32] ++ (joinS (x.vals.map plainS)).1) ++ 59 :: 10 :: s))) (aW x.name :: ((if x.out then [aCC, aW wOutVar] else []) ++ ((if x.vals.isEmpty then [] else aS 61 :: V x) ++ aS 59 :: us))) := by
      cases x.out with
      | false => exact tail _ hnm.1
      | true =>
        have e1 := tail wOutVar (alone_word (by decide))
        have e2 := sp_word_sp hnm.1 (sp_cc e1)
        simpa using e2
    have e3 := sp_word_sp (w := wVar) (alone_word (by decide)) (d2 _ _ (sp_sign_sp (c := 58) (by decide) mid))
    simpa [varT, wVar] using e3
  · have e0 : (varT x).map bare ++ r = bare (aW wVar) :: ((domT x).map bare ++ (bare (aS 58) :: bare (aW x.name) :: ((if x.out then [bare aCC, bare (aW wOutVar)] else []) ++ ((if x.vals.isEmpty then [] else bare (aS 61) :: (V x).map bare) ++ bare (aS 59) :: r)))) := by
      unfold varT
      cases x.out <;> cases x.vals.isEmpty <;> simp
    rw [e0]
    unfold itemP
    rw [if_neg (by rw [isP_cons, isP_cons]; decide), bind_of (may_yes (s := wVar) (t := bare (aW wVar)) rfl), if_pos rfl]
    unfold variableP
    rw [bind_of (d3 _), bind_of (take_yes (s := [58]) (t := bare (aS 58)) rfl), bind_of (name_of hnm _)]
    -- the value
    have hval : ∀ o : Bool, (pbind (mayP [61]) fun v => if v = true then pbind plainP fun y => pret (⟨2, x.name, x.bool, x.dom, 0, o, [y], 0⟩ : It) else pret ⟨2, x.name, x.bool, x.dom, 0, o, [], 0⟩) ((if x.vals.isEmpty then [] else bare (aS 61) :: (V x).map bare) ++ bare (aS 59) :: r) = .ok ⟨2, x.name, x.bool, x.dom, 0, o, x.vals, 0⟩ (bare (aS 59) :: r) := fun o => by
      cases hv : x.vals with
      | nil =>
        show pbind (mayP [61]) _ (bare (aS 59) :: r) = _
        rw [bind_of (may_no (s := [61]) (t := bare (aS 59)) (by decide))]
        rfl
      | cons y q =>
        have hq : q = [] := by
          rw [hv] at h2
          simp at h2
          exact h2
        subst hq
        have hyS : (plainS y).2 = true := (joinS_ok (tx_eq h1)).2.1 _ (List.mem_map.2 ⟨y, by rw [hv]; exact List.mem_cons_self, rfl⟩)
        obtain ⟨y1, y2, ⟨t, y3, y4⟩, y5⟩ := plain_ok (hn y (by rw [hv]; exact List.mem_cons_self)) hyS
        have hV : (V x).map bare = [t] := by
          unfold V
          rw [hv]
          exact y3
        rw [hV]
        show pbind (mayP [61]) _ (bare (aS 61) :: t :: bare (aS 59) :: r) = _
        rw [bind_of (may_yes (s := [61]) (t := bare (aS 61)) rfl), if_pos rfl]
        have := y5 (bare (aS 59) :: r)
        rw [y3] at this
        rw [bind_of (show plainP (t :: bare (aS 59) :: r) = _ from this)]
        rfl
    have hno : ∀ q, (if x.vals.isEmpty then [] else bare (aS 61) :: (V x).map bare) ++ bare (aS 59) :: r = q → ∃ t u, q = t :: u ∧ t.t ≠ [58, 58] := fun q e => by
      subst e
      cases x.vals.isEmpty with
      | true => exact ⟨bare (aS 59), r, rfl, by decide⟩
      | false => exact ⟨bare (aS 61), _, rfl, by decide⟩
    have fin : ∀ o, x.out = o → PR.ok (⟨2, x.name, x.bool, x.dom, 0, o, x.vals, 0⟩ : It) (bare (aS 59) :: r) = .ok x (bare (aS 59) :: r) := fun o ho => by
      obtain ⟨k, nm, b, d, z, o', v, a⟩ := x
      dsimp only at hk h3 h4 ho
      subst hk h3 h4 ho
      rfl
    cases ho : x.out with
    | true =>
      rw [if_pos rfl]
      show pbind (mayP [58, 58]) _ (bare aCC :: bare (aW wOutVar) :: _) = _
      rw [bind_of (may_yes (s := [58, 58]) (t := bare aCC) rfl), if_pos rfl, bind_of (take_yes (s := wOutVar) (t := bare (aW wOutVar)) rfl)]
      exact (hval true).trans (fin true ho)
    | false =>
      rw [if_neg (by decide), List.nil_append]
      obtain ⟨t, u, e1, e2⟩ := hno _ rfl
      rw [e1, bind_of (may_no e2), if_neg (by decide)]
      rw [bind_of (pret_eq () (t :: u)), ← e1]
      exact (hval false).trans (fin false ho)
end Go.Proofs.YtpfhgkielakmoaaGreatDoor

/-
  Joined texts: Vh, Vi.
-/
import Derived.Test.YtpfhgkielakmoaaGreatDoorVg
/-
  Items with a text: constraints, what is asked, arrays; any item.
-/
set_option linter.unusedSimpArgs false
set_option linter.unusedVariables false
namespace Go.Proofs.YtpfhgkielakmoaaGreatDoor

def conT (x : It) : List T3 := aW wConstraint :: aW x.name :: aS 40 :: (inter aComma (x.vals.map exprT) ++ [aS 41, aS 59])
theorem con_ok {x : It} (hk : x.k = 5) (hr : RngI x) (h : (conS x).2 = true) : LowI x ∧ (∀ s us, Sp s us → Sp ((conS x).1 ++ 10 :: s) (conT x ++ us)) ∧ ∀ r, itemP ((conT x).map bare ++ r) = .ok x (bare (aS 59) :: r) := by
  unfold conS at h ⊢
  dsimp only at h ⊢
  obtain ⟨h1, h2, h3, h5⟩ : (joinS (x.vals.map exprS)).2 = true ∧ bareB x = true ∧ x.bool = false ∧ nameB x.name = true := by simpa [Bool.and_eq_true] using h
  obtain ⟨hnm, _⟩ := nameB_iff.1 h5
  obtain ⟨b1, b2, b3, b4⟩ := bare_of h2
  obtain ⟨p1, p2, p3, p4⟩ := exprs_ok hr.2.2 h1
  refine ⟨⟨by rw [b1]; exact Nat.zero_le _, p1, p2⟩, fun s us hs => ?_, fun r => ?_⟩
  · have e1 := p3 (41 :: 59 :: 10 :: s) _ ⟨41, _, rfl, Or.inr (Or.inl rfl)⟩ (sp_sign (c := 41) (by decide) (by decide) (sp_end hs))
    have e2 := sp_word_sp (w := wConstraint) (alone_word (by decide)) (sp_word hnm.1 (c := 40) (by decide) (sp_sign (c := 40) (by decide) (by decide) e1))
    simpa [conT] using e2
  · have e0 : (conT x).map bare ++ r = bare (aW wConstraint) :: bare (aW x.name) :: bare (aS 40) :: ((inter aComma (x.vals.map exprT)).map bare ++ bare (aS 41) :: bare (aS 59) :: r) := by
      unfold conT
      simp
    rw [e0]
    unfold itemP
    rw [if_neg (by rw [isP_cons, isP_cons]; decide), bind_of (may_no (s := wVar) (t := bare (aW wConstraint)) (by decide)), if_neg (by decide), bind_of (may_no (s := wArray) (t := bare (aW wConstraint)) (by decide)), if_neg (by decide),
      bind_of (may_yes (s := wConstraint) (t := bare (aW wConstraint)) rfl), if_pos rfl, bind_of (name_of hnm _), bind_of (take_yes (s := [40]) (t := bare (aS 40)) rfl), bind_of (p4 (bare (aS 41)) (bare (aS 59) :: r) rfl)]
    obtain ⟨k, nm, b, d, z, o, v, a⟩ := x
    dsimp only at hk h3 b1 b2 b3 b4
    subst hk h3 b1 b2 b3 b4
    rfl
def goalT (x : It) : List T3 := aW wSolve :: ((if x.ask = 0 then [aW wSatisfy] else if x.ask = 1 then [aW wMinimize, aW x.name] else [aW wMaximize, aW x.name]) ++ [aS 59])
theorem goal_ok {x : It} (hk : x.k = 6) (hr : RngI x) (h : (goalS x).2 = true) : LowI x ∧ (∀ s us, Sp s us → Sp ((goalS x).1 ++ 10 :: s) (goalT x ++ us)) ∧ ∀ r, itemP ((goalT x).map bare ++ r) = .ok x (bare (aS 59) :: r) := by
  obtain ⟨k, nm, b, d, z, o, v, a⟩ := x
  dsimp only at hk
  subst hk
  unfold goalS at h ⊢
  unfold goalT
  dsimp only at h ⊢
  have hitem : ∀ l, itemP (bare (aW wSolve) :: l) = goalP l := fun l => by
    unfold itemP
    rw [if_neg (by rw [isP_cons, isP_cons]; decide), bind_of (may_no (s := wVar) (t := bare (aW wSolve)) (by decide)), if_neg (by decide), bind_of (may_no (s := wArray) (t := bare (aW wSolve)) (by decide)), if_neg (by decide),
      bind_of (may_no (s := wConstraint) (t := bare (aW wSolve)) (by decide)), if_neg (by decide), bind_of (may_yes (s := wSolve) (t := bare (aW wSolve)) rfl), if_pos rfl]
  by_cases a0 : a = 0
  · subst a0
    rw [if_pos rfl] at h ⊢
    rw [if_pos rfl]
    obtain ⟨⟨h1, h2, h3⟩, h4, h5, h6⟩ : (d = [] ∧ z = 0 ∧ o = false) ∧ b = false ∧ v = [] ∧ nm = [] := by simpa [Bool.and_eq_true] using h
    subst h1 h2 h3 h4 h5 h6
    refine ⟨⟨Nat.zero_le _, Nat.zero_le _, fun _ h => absurd h List.not_mem_nil⟩, fun s us hs => ?_, fun r => ?_⟩
    · have e2 := sp_word_sp (w := wSolve) (alone_word (by decide)) (sp_word (w := wSatisfy) (alone_word (by decide)) (c := 59) (by decide) (sp_end hs))
      simpa using e2
    · show itemP (bare (aW wSolve) :: bare (aW wSatisfy) :: bare (aS 59) :: r) = _
      rw [hitem]
      unfold goalP
      rw [bind_of (may_yes (s := wSatisfy) (t := bare (aW wSatisfy)) rfl)]
      rfl
  · rw [if_neg a0] at h ⊢
    rw [if_neg a0]
    by_cases a1 : a = 1
    · subst a1
      rw [if_pos rfl] at h ⊢
      rw [if_pos rfl]
      obtain ⟨⟨h1, h2, h3⟩, h4, h5, h6⟩ : (d = [] ∧ z = 0 ∧ o = false) ∧ b = false ∧ v = [] ∧ nameB nm = true := by simpa [Bool.and_eq_true] using h
      subst h1 h2 h3 h4 h5
      obtain ⟨hnm, _⟩ := nameB_iff.1 h6
      refine ⟨⟨Nat.zero_le _, Nat.zero_le _, fun _ h => absurd h List.not_mem_nil⟩, fun s us hs => ?_, fun r => ?_⟩
      · have e2 := sp_word_sp (w := wSolve) (alone_word (by decide)) (sp_word_sp (w := wMinimize) (alone_word (by decide)) (sp_word hnm.1 (c := 59) (by decide) (sp_end hs)))
        simpa [wSolMin, wSolve, wMinimize] using e2
      · show itemP (bare (aW wSolve) :: bare (aW wMinimize) :: bare (aW nm) :: bare (aS 59) :: r) = _
        rw [hitem]
        unfold goalP
        rw [bind_of (may_no (s := wSatisfy) (t := bare (aW wMinimize)) (by decide)), if_neg (by decide), bind_of (may_yes (s := wMinimize) (t := bare (aW wMinimize)) rfl), if_pos rfl, bind_of (name_of hnm _)]
        rfl
    · rw [if_neg a1] at h ⊢
      rw [if_neg a1]
      by_cases a2 : a = 2
      · subst a2
        rw [if_pos rfl] at h ⊢
        obtain ⟨⟨h1, h2, h3⟩, h4, h5, h6⟩ : (d = [] ∧ z = 0 ∧ o = false) ∧ b = false ∧ v = [] ∧ nameB nm = true := by simpa [Bool.and_eq_true] using h
        subst h1 h2 h3 h4 h5
        obtain ⟨hnm, _⟩ := nameB_iff.1 h6
        refine ⟨⟨Nat.zero_le _, Nat.zero_le _, fun _ h => absurd h List.not_mem_nil⟩, fun s us hs => ?_, fun r => ?_⟩
        · have e2 := sp_word_sp (w := wSolve) (alone_word (by decide)) (sp_word_sp (w := wMaximize) (alone_word (by decide)) (sp_word hnm.1 (c := 59) (by decide) (sp_end hs)))
          simpa using e2
        · show itemP (bare (aW wSolve) :: bare (aW wMaximize) :: bare (aW nm) :: bare (aS 59) :: r) = _
          rw [hitem]
          unfold goalP
          rw [bind_of (may_no (s := wSatisfy) (t := bare (aW wMaximize)) (by decide)), if_neg (by decide), bind_of (may_no (s := wMinimize) (t := bare (aW wMaximize)) (by decide)), if_neg (by decide), bind_of (may_yes (s := wMaximize) (t := bare (aW wMaximize)) rfl), if_pos rfl, bind_of (name_of hnm _)]
          rfl
      · rw [if_neg a2] at h
        cases h
def sizeT (x : It) : List T3 := [aS 91, aN 1, aDots, aN x.size, aS 93]
def arrT (x : It) : List T3 := aW wArray :: (sizeT x ++ aW wOf :: ((if x.k = 4 then [aW wVar] else []) ++ aW (truthS x.bool) :: aS 58 :: aW x.name :: ((if x.out then aCC :: aW wOutArray :: aS 40 :: (sizeT x ++ [aS 41]) else []) ++ aS 61 :: aS 91 :: (V x ++ [aS 93, aS 59]))))
theorem size_sp {x : It} (h : I64 x.size) {c : UInt8} {s : List UInt8} {us : List T3} (hs : Sp s us) : Sp (sizeS x ++ s) (sizeT x ++ us) := by
  have h1 := sp_sign (c := 93) (by decide) (by decide) hs
  have h2 := sp_num (n := 1) ⟨by decide, by decide⟩ (c := 46) (by decide) (sp_dots (sp_num h (c := 93) (by decide) h1))
  rw [itoa_1] at h2
  have h3 := sp_sign (c := 91) (by decide) (by decide) h2
  simpa [sizeS, sizeT] using h3
theorem size_sp_sp {x : It} (h : I64 x.size) {s : List UInt8} {us : List T3} (hs : Sp s us) : Sp (sizeS x ++ 32 :: s) (sizeT x ++ us) := by
  have g1 := sp_sign_sp (c := 93) (by decide) hs
  have g2 := sp_num (n := 1) ⟨by decide, by decide⟩ (c := 46) (by decide) (sp_dots (sp_num h (c := 93) (by decide) g1))
  rw [itoa_1] at g2
  have g3 := sp_sign (c := 91) (by decide) (by decide) g2
  simpa [sizeS, sizeT] using g3
theorem takes_of {s : List UInt8} {ss : List (List UInt8)} {t : Tok} {l : List Tok} (h : t.t = s) : takesP (s :: ss) (t :: l) = takesP ss l := by
  show pbind (takeP s) _ _ = _
  rw [bind_of (take_yes h)]
/-- An array's last part. -/
theorem arr_end {x : It} {r : List Tok} (p4 : ∀ (e : Tok) (c : UInt8) (r : List Tok), isSign c = true → c ≠ 44 → e.t = [c] → exprsP [c] plainP ((V x).map bare ++ e :: r) = .ok x.vals r) (k : Int) (o : Bool) :
    (pbind (takesP [[61], [91]]) fun _ => pbind (exprsP [93] plainP) fun xs => pret (⟨k, x.name, x.bool, [], x.size, o, xs, 0⟩ : It)) (bare (aS 61) :: bare (aS 91) :: ((V x).map bare ++ bare (aS 93) :: bare (aS 59) :: r)) = .ok ⟨k, x.name, x.bool, [], x.size, o, x.vals, 0⟩ (bare (aS 59) :: r) := by
  have h1 : takesP [[61], [91]] (bare (aS 61) :: bare (aS 91) :: ((V x).map bare ++ bare (aS 93) :: bare (aS 59) :: r)) = .ok () ((V x).map bare ++ bare (aS 93) :: bare (aS 59) :: r) := by
    rw [takes_of (s := [61]) (t := bare (aS 61)) rfl, takes_of (s := [91]) (t := bare (aS 91)) rfl]
    rfl
  rw [bind_of h1, bind_of (p4 (bare (aS 93)) 93 (bare (aS 59) :: r) (by decide) (by decide) rfl)]
  rfl
theorem arr_ok {x : It} (hk : x.k = 3 ∨ x.k = 4) (hr : RngI x) (h : (arrS x).2 = true) : LowI x ∧ (∀ s us, Sp s us → Sp ((arrS x).1 ++ 10 :: s) (arrT x ++ us)) ∧ ∀ r, itemP ((arrT x).map bare ++ r) = .ok x (bare (aS 59) :: r) := by
  unfold arrS at h ⊢
  dsimp only at h ⊢
  obtain ⟨h1, h2, h3, h4, h5⟩ : (joinS (x.vals.map plainS)).2 = true ∧ x.dom = [] ∧ x.ask = 0 ∧ (x.out = false ∨ x.k = 4) ∧ nameB x.name = true := by simpa [Bool.and_eq_true] using h
  obtain ⟨hnm, _⟩ := nameB_iff.1 h5
  have hn : ∀ y ∈ x.vals, I64 y.n := fun y hy => (hr.2.2 y hy).1
  obtain ⟨p1, p2, p3, p4⟩ := plains_ok hn h1
  refine ⟨⟨by rw [h2]; exact Nat.zero_le _, p1, fun z hz => lowE_nil (p2 z hz)⟩, fun s us hs => ?_, fun r => ?_⟩
  · have e1 := p3 (93 :: 59 :: 10 :: s) _ ⟨93, _, rfl, Or.inr (Or.inr (Or.inl rfl))⟩ (sp_sign (c := 93) (by decide) (by decide) (sp_end hs))
    have e2 := sp_sign_sp (c := 61) (by decide) (sp_sign (c := 91) (by decide) (by decide) e1)
    have e3 : Sp (x.name ++ ((if x.out then [32, 58, 58, 32] ++ wOutArray ++ [40] ++ sizeS x ++ [41] else []) ++ 32 :: 61 :: 32 :: 91 :: ((joinS (x.vals.map plainS)).1 ++ 93 :: 59 :: 10 :: s))) (aW x.name :: ((if x.out then aCC :: aW wOutArray :: aS 40 :: (sizeT x ++ [aS 41]) else []) ++ aS 61 :: aS 91 :: (V x ++ aS 93 :: aS 59 :: us))) := by
      cases x.out with
      | false => exact sp_word_sp hnm.1 e2
      | true =>
        have q1 := size_sp (x := x) (c := 0) hr.1 (sp_sign_sp (c := 41) (by decide) e2)
        have q2 := sp_word_sp hnm.1 (sp_cc (sp_word (w := wOutArray) (alone_word (by decide)) (c := 40) (by decide) (sp_sign (c := 40) (by decide) (by decide) q1)))
        simpa [V] using q2
    have e4 := sp_word (truth_alone x.bool) (c := 58) (by decide) (sp_sign_sp (c := 58) (by decide) e3)
    have e5 : Sp ((if x.k = 4 then [118, 97, 114, 32] else []) ++ (truthS x.bool ++ 58 :: 32 :: (x.name ++ ((if x.out then [32, 58, 58, 32] ++ wOutArray ++ [40] ++ sizeS x ++ [41] else []) ++ 32 :: 61 :: 32 :: 91 :: ((joinS (x.vals.map plainS)).1 ++ 93 :: 59 :: 10 :: s))))) ((if x.k = 4 then [aW wVar] else []) ++ aW (truthS x.bool) :: aS 58 :: aW x.name :: ((if x.out then aCC :: aW wOutArray :: aS 40 :: (sizeT x ++ [aS 41]) else []) ++ aS 61 :: aS 91 :: (V x ++ aS 93 :: aS 59 :: us))) := by
      by_cases h4 : x.k = 4
      · rw [if_pos h4, if_pos h4]
        exact sp_word_sp (w := wVar) (alone_word (by decide)) e4
      · rw [if_neg h4, if_neg h4]
        exact e4
    have e6 := sp_word_sp (w := wOf) (alone_word (by decide)) e5
    have e7 := size_sp_sp (x := x) hr.1 e6
    have e8 := sp_word_sp (w := wArray) (alone_word (by decide)) e7
    simpa [arrT, wOf] using e8
  · have e0 : (arrT x).map bare ++ r = bare (aW wArray) :: bare (aS 91) :: bare (aN 1) :: bare aDots :: bare (aN x.size) :: bare (aS 93) :: bare (aW wOf) :: ((if x.k = 4 then [bare (aW wVar)] else []) ++ bare (aW (truthS x.bool)) :: bare (aS 58) :: bare (aW x.name) :: ((if x.out then [bare aCC, bare (aW wOutArray), bare (aS 40), bare (aS 91), bare (aN 1), bare aDots, bare (aN x.size), bare (aS 93), bare (aS 41)] else []) ++ bare (aS 61) :: bare (aS 91) :: ((V x).map bare ++ bare (aS 93) :: bare (aS 59) :: r))) := by
      unfold arrT sizeT
      by_cases h4 : x.k = 4 <;> cases x.out <;> simp [h4]
    rw [e0]
    have p4' : ∀ (e : Tok) (c : UInt8) (r : List Tok), isSign c = true → c ≠ 44 → e.t = [c] → exprsP [c] plainP ((V x).map bare ++ e :: r) = .ok x.vals r := p4
    have fin : ∀ k o, x.k = k → x.out = o → PR.ok (⟨k, x.name, x.bool, [], x.size, o, x.vals, 0⟩ : It) (bare (aS 59) :: r) = .ok x (bare (aS 59) :: r) := fun k o hk ho => by
      obtain ⟨k', nm, b, d, z, o', v, a⟩ := x
      dsimp only at hk h2 h3 ho
      subst hk h2 h3 ho
      rfl
    unfold itemP
    rw [if_neg (by rw [isP_cons, isP_cons]; decide), bind_of (may_no (s := wVar) (t := bare (aW wArray)) (by decide)), if_neg (by decide), bind_of (may_yes (s := wArray) (t := bare (aW wArray)) rfl), if_pos rfl]
    unfold arrayP
    rw [bind_of (take_yes (s := [91]) (t := bare (aS 91)) rfl), bind_of (exact_of 1 _), bind_of (take_yes (s := [46, 46]) (t := bare aDots) rfl), bind_of (number_of x.size _)]
    have ht : ∀ l, takesP [[93], wOf] (bare (aS 93) :: bare (aW wOf) :: l) = .ok () l := fun l => by
      rw [takes_of (s := [93]) (t := bare (aS 93)) rfl, takes_of (s := wOf) (t := bare (aW wOf)) rfl]
      rfl
    rw [bind_of (ht _)]
    have hvar : (bare (aW (truthS x.bool))).t ≠ wVar := by cases x.bool <;> decide
    rcases hk with hk | hk
    · have ho : x.out = false := by
        rcases h4 with h4 | h4
        · exact h4
        · rw [hk] at h4
          exact absurd h4 (by decide)
      rw [ho, if_neg (by rw [hk]; decide), List.nil_append, if_neg (by decide), List.nil_append, bind_of (may_no hvar), bind_of (truth_of x.bool _), bind_of (take_yes (s := [58]) (t := bare (aS 58)) rfl), bind_of (name_of hnm _), if_neg (by decide), bind_of (pret_eq false _), if_neg (by decide), bind_of (pret_eq () _)]
      exact (arr_end p4' (if false = true then 4 else 3) false).trans (fin 3 false hk ho)
    · rw [if_pos hk]
      rw [List.cons_append, List.nil_append, bind_of (may_yes (s := wVar) (t := bare (aW wVar)) rfl), bind_of (truth_of x.bool _), bind_of (take_yes (s := [58]) (t := bare (aS 58)) rfl), bind_of (name_of hnm _)]
      cases ho : x.out with
      | false =>
        simp only [if_true, Bool.false_eq_true, if_false, List.nil_append]
        rw [bind_of (may_no (s := [58, 58]) (t := bare (aS 61)) (by decide))]
        simp only [Bool.false_eq_true, if_false]
        rw [bind_of (pret_eq () _)]
        exact (arr_end p4' 4 false).trans (fin 4 false hk ho)
      | true =>
        simp only [if_true, List.cons_append, List.nil_append]
        rw [bind_of (may_yes (s := [58, 58]) (t := bare aCC) rfl)]
        simp only [if_true]
        have ho1 : ∀ l, (pbind (takesP [wOutArray, [40], [91]]) fun _ => pbind (exactP 1) fun _ => pbind (takeP [46, 46]) fun _ => pbind (exactP x.size) fun _ => takesP [[93], [41]]) (bare (aW wOutArray) :: bare (aS 40) :: bare (aS 91) :: bare (aN 1) :: bare aDots :: bare (aN x.size) :: bare (aS 93) :: bare (aS 41) :: l) = .ok () l := fun l => by
          have g1 : takesP [wOutArray, [40], [91]] (bare (aW wOutArray) :: bare (aS 40) :: bare (aS 91) :: bare (aN 1) :: bare aDots :: bare (aN x.size) :: bare (aS 93) :: bare (aS 41) :: l) = .ok () (bare (aN 1) :: bare aDots :: bare (aN x.size) :: bare (aS 93) :: bare (aS 41) :: l) := by
            rw [takes_of (s := wOutArray) (t := bare (aW wOutArray)) rfl, takes_of (s := [40]) (t := bare (aS 40)) rfl, takes_of (s := [91]) (t := bare (aS 91)) rfl]
            rfl
          rw [bind_of g1, bind_of (exact_of 1 _), bind_of (take_yes (s := [46, 46]) (t := bare aDots) rfl), bind_of (exact_of x.size _), takes_of (s := [93]) (t := bare (aS 93)) rfl, takes_of (s := [41]) (t := bare (aS 41)) rfl]
          rfl
        rw [bind_of (ho1 _)]
        exact (arr_end p4' 4 true).trans (fin 4 true hk ho)
def itemT (x : It) : List T3 := if x.k = 1 then parT x else if x.k = 2 then varT x else if x.k = 3 ∨ x.k = 4 then arrT x else if x.k = 5 then conT x else goalT x
/-- An item that has a text. -/
theorem vitem_ok {x : It} (hr : RngI x) (h : (itemS x).2 = true) : LowI x ∧ (∀ s us, Sp s us → Sp ((itemS x).1 ++ 10 :: s) (itemT x ++ us)) ∧ ∀ r, itemP ((itemT x).map bare ++ r) = .ok x (bare (aS 59) :: r) := by
  unfold itemS at h ⊢
  unfold itemT
  by_cases h1 : x.k = 1
  · rw [if_pos h1] at h ⊢
    rw [if_pos h1]
    exact par_ok h1 hr h
  · rw [if_neg h1] at h ⊢
    rw [if_neg h1]
    by_cases h2 : x.k = 2
    · rw [if_pos h2] at h ⊢
      rw [if_pos h2]
      exact var_ok h2 hr h
    · rw [if_neg h2] at h ⊢
      rw [if_neg h2]
      by_cases h3 : x.k = 3 ∨ x.k = 4
      · rw [if_pos h3] at h ⊢
        rw [if_pos h3]
        exact arr_ok h3 hr h
      · rw [if_neg h3] at h ⊢
        rw [if_neg h3]
        by_cases h5 : x.k = 5
        · rw [if_pos h5] at h ⊢
          rw [if_pos h5]
          exact con_ok h5 hr h
        · rw [if_neg h5] at h ⊢
          rw [if_neg h5]
          by_cases h6 : x.k = 6
          · rw [if_pos h6] at h ⊢
            exact goal_ok h6 hr h
          · rw [if_neg h6] at h
            cases h
end Go.Proofs.YtpfhgkielakmoaaGreatDoor
/-
  Items as one text: they come back; one text behind the other.
-/
set_option linter.unusedSimpArgs false
set_option linter.unusedVariables false
namespace Go.Proofs.YtpfhgkielakmoaaGreatDoor

def textS (l : List It) : List UInt8 := l.flatMap fun x => (itemS x).1 ++ [10]
def toksT (l : List It) : List T3 := l.flatMap itemT
theorem spell_all : ∀ {l : List It}, (∀ x ∈ l, RngI x) → (∀ x ∈ l, (itemS x).2 = true) → Sp (textS l) (toksT l)
  | [], _, _ => Sp.nil
  | x :: l, hr, h => by
    have ih := spell_all (l := l) (fun y hy => hr y (List.mem_cons_of_mem _ hy)) (fun y hy => h y (List.mem_cons_of_mem _ hy))
    have := (vitem_ok (hr x List.mem_cons_self) (h x List.mem_cons_self)).2.1 (textS l) (toksT l) ih
    show Sp (((itemS x).1 ++ [10]) ++ textS l) (itemT x ++ toksT l)
    simpa using this
theorem itemT_ne {x : It} (hr : RngI x) (h : (itemS x).2 = true) : ∃ t q, (itemT x).map bare = t :: q := by
  have := (vitem_ok hr h).2.2 []
  cases hq : (itemT x).map bare with
  | nil =>
    rw [hq] at this
    exact absurd this (by intro e; cases e)
  | cons t q => exact ⟨t, q, rfl⟩
theorem all_of : ∀ {l : List It} (k : Nat) (acc : List It), (∀ x ∈ l, RngI x) → (∀ x ∈ l, (itemS x).2 = true) → l.length ≤ k → allGo k acc ((toksT l).map bare) = .ok (acc ++ l) []
  | [], k, acc, _, _, _ => by
    show allGo k acc [] = _
    rw [allGo_nil, List.append_nil]
  | x :: l, k, acc, hr, h, hk => by
    obtain ⟨j, rfl⟩ : ∃ j, k = j + 1 := ⟨k - 1, by simp at hk; omega⟩
    have ih := all_of (l := l) j (acc ++ [x]) (fun y hy => hr y (List.mem_cons_of_mem _ hy)) (fun y hy => h y (List.mem_cons_of_mem _ hy)) (by simp at hk; omega)
    have hi := (vitem_ok (hr x List.mem_cons_self) (h x List.mem_cons_self)).2.2 ((toksT l).map bare)
    obtain ⟨t, q, ht⟩ := itemT_ne (hr x List.mem_cons_self) (h x List.mem_cons_self)
    have e : (toksT (x :: l)).map bare = t :: (q ++ (toksT l).map bare) := by
      show (itemT x ++ toksT l).map bare = _
      rw [List.map_append, ht]
      rfl
    rw [e, allGo_cons]
    rw [ht] at hi
    rw [bind_of (show itemP (t :: (q ++ (toksT l).map bare)) = _ from hi), bind_of (take_yes (s := [59]) (t := bare (aS 59)) rfl), ih]
    simp
theorem showL_ok {l : List It} (h : (showL l).2 = 0) : l.length ≤ 512 ∧ (∀ x ∈ l, (itemS x).2 = true ∧ fitsS (itemS x).1 = true) ∧ fitsS (textS l) = true ∧ (showL l).1 = textS l := by
  unfold showL at h ⊢
  by_cases h1 : 512 < l.length
  · rw [if_pos h1] at h
    exact absurd h (by decide)
  · rw [if_neg h1] at h ⊢
    by_cases h2 : l.all (fun x => (itemS x).2 && fitsS (itemS x).1) = true
    · rw [if_pos h2] at h ⊢
      by_cases h3 : fitsS (l.flatMap fun x => (itemS x).1 ++ [10]) = true
      · rw [if_pos h3]
        exact ⟨by omega, fun x hx => by simpa [Bool.and_eq_true] using List.all_eq_true.1 h2 x hx, h3, rfl⟩
      · rw [if_neg h3] at h
        exact absurd h (by decide)
    · rw [if_neg h2] at h
      exact absurd h (by decide)
/-- Items come back from their text. -/
theorem show_back {l : List It} (hr : ∀ x ∈ l, RngI x) (h : (showL l).2 = 0) : textP (showL l).1 = (l, 0, 0) ∧ ∀ x ∈ l, LowI x := by
  obtain ⟨h1, h2, h3, h4⟩ := showL_ok h
  have hs := spell_all hr fun x hx => (h2 x hx).1
  have ht := hs.toks
  have hf : (splitR (textS l)).2.2 = 0 := by
    unfold fitsS at h3
    simpa using h3
  obtain ⟨k1, k2⟩ := (splitR_iff (by rw [ht.1]; exact ht.2)).1 hf
  refine ⟨?_, fun x hx => (vitem_ok (hr x hx) (h2 x hx).1).1⟩
  rw [h4]
  exact text_of k1 (by rw [ht.1]; exact ht.2) k2 (by simpa using all_of 512 [] hr (fun x hx => (h2 x hx).1) h1)
theorem textS_app (a b : List It) : textS (a ++ b) = textS a ++ textS b := by simp [textS]
theorem toksT_app (a b : List It) : toksT (a ++ b) = toksT a ++ toksT b := by simp [toksT]
theorem fits_iff {l : List It} (hr : ∀ x ∈ l, RngI x) (h : ∀ x ∈ l, (itemS x).2 = true) : fitsS (textS l) = true ↔ (textS l).length ≤ 8192 ∧ (toksT l).length ≤ 4096 := by
  have ht := (spell_all hr h).toks
  unfold fitsS
  rw [beq_iff_eq]
  exact splitR_iff (by rw [ht.1]; exact ht.2)
/-- The text of items, and others behind them. -/
theorem show_both {a b : List It} (ha : ∀ x ∈ a, RngI x) (hb : ∀ x ∈ b, RngI x) (la : a.length ≤ 50) (lb : b.length ≤ 50) :
    (((showL a).2 ≠ 0 ∨ (showL b).2 ≠ 0) → (showL (a ++ b)).2 ≠ 0) ∧ ((showL a).2 = 0 → (showL b).2 = 0 → (showL (a ++ b)).2 = 3 ∨ ((showL (a ++ b)).2 = 0 ∧ (showL (a ++ b)).1 = (showL a).1 ++ (showL b).1)) := by
  constructor
  · intro h h0
    obtain ⟨h1, h2, h3, h4⟩ := showL_ok h0
    have ok : ∀ x ∈ a ++ b, (itemS x).2 = true := fun x hx => (h2 x hx).1
    have hr : ∀ x ∈ a ++ b, RngI x := fun x hx => (List.mem_append.1 hx).elim (ha x) (hb x)
    obtain ⟨k1, k2⟩ := (fits_iff hr ok).1 h3
    rw [textS_app, List.length_append] at k1
    rw [toksT_app, List.length_append] at k2
    have one : ∀ (c : List It), (∀ x ∈ c, x ∈ a ++ b) → c.length ≤ 50 → (textS c).length ≤ 8192 → (toksT c).length ≤ 4096 → (showL c).2 = 0 := fun c hc lc t1 t2 => by
      unfold showL
      rw [if_neg (by omega), if_pos (List.all_eq_true.2 fun x hx => by rw [(h2 x (hc x hx)).1, (h2 x (hc x hx)).2]; rfl)]
      have := (fits_iff (fun x hx => hr x (hc x hx)) (fun x hx => ok x (hc x hx))).2 ⟨t1, t2⟩
      rw [if_pos (show fitsS (c.flatMap fun x => (itemS x).1 ++ [10]) = true from this)]
    rcases h with h | h
    · exact h (one a (fun x hx => List.mem_append_left _ hx) la (by omega) (by omega))
    · exact h (one b (fun x hx => List.mem_append_right _ hx) lb (by omega) (by omega))
  · intro h1 h2
    obtain ⟨a1, a2, a3, a4⟩ := showL_ok h1
    obtain ⟨b1, b2, b3, b4⟩ := showL_ok h2
    have hall : (a ++ b).all (fun x => (itemS x).2 && fitsS (itemS x).1) = true := List.all_eq_true.2 fun x hx => by
      rcases List.mem_append.1 hx with hx | hx
      · rw [(a2 x hx).1, (a2 x hx).2]; rfl
      · rw [(b2 x hx).1, (b2 x hx).2]; rfl
    rw [a4, b4, ← textS_app]
    unfold showL
    rw [if_neg (by rw [List.length_append]; omega), if_pos hall]
    by_cases h3 : fitsS ((a ++ b).flatMap fun x => (itemS x).1 ++ [10]) = true
    · rw [if_pos h3]
      exact Or.inr ⟨rfl, rfl⟩
    · rw [if_neg h3]
      exact Or.inl rfl
end Go.Proofs.YtpfhgkielakmoaaGreatDoor

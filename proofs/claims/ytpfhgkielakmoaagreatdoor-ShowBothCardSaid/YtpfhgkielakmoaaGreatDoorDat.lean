/-
  Joined texts: Vc, Vd, Th, Ti, Tj, Tk, Dat.
-/
import Derived.Test.YtpfhgkielakmoaaGreatDoorVb
import Derived.Lib.Strings
import Derived.Lib.Join
import Derived.Test.YtpfhgkielakmoaaGreatDoorPa
import Derived.Test.YtpfhgkielakmoaaGreatDoorProg
import Derived.Test.YtpfhgkielakmoaaGreatDoorReg
import Derived.Maps.AppendAt
/-
  Items as texts, as plain functions; plain expressions, spelled and parsed.
-/
set_option linter.unusedSimpArgs false
set_option linter.unusedVariables false
namespace Go.Proofs.YtpfhgkielakmoaaGreatDoor

abbrev TX := List UInt8 × Bool
def plain0S (y : Ex0) : TX :=
  if 0 < y.m then ([], false)
  else if y.k = 1 ∧ y.s = [] then (Lib.itoa y.n, true)
  else if y.k = 2 ∧ y.s = [] ∧ y.n = 1 then (wTrue, true)
  else if y.k = 2 ∧ y.s = [] ∧ y.n = 0 then (wFalse, true)
  else if y.k = 3 ∧ y.n = 0 ∧ nameB y.s = true then (y.s, true)
  else ([], false)
def joinS (ps : List TX) : TX := if 64 < ps.length then ([], false) else if ps.all (·.2) = true then (Lib.join (ps.map (·.1)) [44, 32], true) else ([], false)
def plainS (x : Ex) : TX := plain0S x.low
def exprS (x : Ex) : TX := if x.k ≠ 4 then plainS x else (91 :: ((joinS (x.l.map plain0S)).1 ++ [93]), (joinS (x.l.map plain0S)).2 && (x.n == 0 && x.s == []))
def domS (x : It) : TX :=
  if x.bool = true then (wBool, x.dom.isEmpty)
  else match x.dom with
    | [r] => (Lib.itoa r.1 ++ (46 :: 46 :: Lib.itoa r.2), true)
    | d => if d = [] ∨ 256 < d.length then ([], false) else if d.all (fun r => r.1 == r.2) = true then (123 :: (Lib.join (d.map fun r => Lib.itoa r.1) [44, 32] ++ [125]), true) else ([], false)
def truthS (b : Bool) : List UInt8 := if b then wBool else wInt
def bareB (x : It) : Bool := x.dom.isEmpty && (x.size == 0 && (!x.out && x.ask == 0))
def parS (x : It) : TX :=
  (truthS x.bool ++ [58, 32] ++ x.name ++ [32, 61, 32] ++ (joinS (x.vals.map plainS)).1 ++ [59],
    (joinS (x.vals.map plainS)).2 && ((x.vals.length == 1) && ((x.vals.map (·.k) == [if x.bool then 2 else 1]) && (bareB x && nameB x.name))))
def varS (x : It) : TX :=
  ([118, 97, 114, 32] ++ (domS x).1 ++ [58, 32] ++ x.name ++ (if x.out then [32, 58, 58, 32] ++ wOutVar else []) ++ (if x.vals.isEmpty then [] else [32, 61, 32] ++ (joinS (x.vals.map plainS)).1) ++ [59],
    (domS x).2 && ((joinS (x.vals.map plainS)).2 && (decide (x.vals.length ≤ 1) && (x.size == 0 && (x.ask == 0 && nameB x.name)))))
def sizeS (x : It) : List UInt8 := [91, 49, 46, 46] ++ Lib.itoa x.size ++ [93]
def arrS (x : It) : TX :=
  (wArray ++ [32] ++ sizeS x ++ [32, 111, 102, 32] ++ (if x.k = 4 then [118, 97, 114, 32] else []) ++ truthS x.bool ++ [58, 32] ++ x.name ++ (if x.out then [32, 58, 58, 32] ++ wOutArray ++ [40] ++ sizeS x ++ [41] else []) ++ [32, 61, 32, 91] ++ (joinS (x.vals.map plainS)).1 ++ [93, 59],
    (joinS (x.vals.map plainS)).2 && (x.dom.isEmpty && (x.ask == 0 && ((!x.out || x.k == 4) && nameB x.name))))
def conS (x : It) : TX :=
  (wConstraint ++ [32] ++ x.name ++ [40] ++ (joinS (x.vals.map exprS)).1 ++ [41, 59],
    (joinS (x.vals.map exprS)).2 && (bareB x && (!x.bool && nameB x.name)))
def goalS (x : It) : TX :=
  if x.ask = 0 then (wSolve ++ [32] ++ wSatisfy ++ [59], (x.dom.isEmpty && (x.size == 0 && !x.out)) && (!x.bool && (x.vals.isEmpty && x.name == [])))
  else if x.ask = 1 then (wSolMin ++ x.name ++ [59], (x.dom.isEmpty && (x.size == 0 && !x.out)) && (!x.bool && (x.vals.isEmpty && nameB x.name)))
  else if x.ask = 2 then (wSolve ++ [32] ++ wMaximize ++ [32] ++ x.name ++ [59], (x.dom.isEmpty && (x.size == 0 && !x.out)) && (!x.bool && (x.vals.isEmpty && nameB x.name)))
  else ([], false)
/-- show's text of an item; whether it may be. -/
def itemS (x : It) : TX :=
  if x.k = 1 then parS x else if x.k = 2 then varS x else if x.k = 3 ∨ x.k = 4 then arrS x else if x.k = 5 then conS x else if x.k = 6 then goalS x else ([], false)
def fitsS (s : List UInt8) : Bool := (splitR s).2.2 == 0
/-- show.Item, show.Text. -/
def showI (x : It) : List UInt8 × Int := if ((itemS x).2 && fitsS (itemS x).1) = true then ((itemS x).1, 0) else ([], 2)
def showL (l : List It) : List UInt8 × Int :=
  if 512 < l.length then ([], 3)
  else if l.all (fun x => (itemS x).2 && fitsS (itemS x).1) = true then
    (if fitsS (l.flatMap fun x => (itemS x).1 ++ [10]) = true then (l.flatMap fun x => (itemS x).1 ++ [10], 0) else ([], 3))
  else ([], 2)
-- ranges
def I64 (n : Int) : Prop := -9223372036854775808 ≤ n ∧ n ≤ 9223372036854775807
def aTrue : T3 := (1, wTrue, 0)
def aFalse : T3 := (1, wFalse, 0)
def plain0T (y : Ex0) : T3 := if y.k = 1 then (2, Lib.itoa y.n, y.n) else if y.k = 2 then (if y.n = 1 then aTrue else aFalse) else (1, y.s, 0)
/-- A plain expression that has a text: its token, and what the parser makes of it. -/
theorem plain0_ok {y : Ex0} (hn : I64 y.n) {t : List UInt8} (h : plain0S y = (t, true)) : y.m = 0 ∧ Alone (plain0T y) ∧ (plain0T y).2.1 = t ∧ ∀ r, plainP (bare (plain0T y) :: r) = .ok ⟨y.k, y.n, y.s, []⟩ r := by
  obtain ⟨k, n, s, m⟩ := y
  unfold plain0S at h
  dsimp only at h hn
  by_cases c0 : 0 < m
  · rw [if_pos c0] at h; cases h
  rw [if_neg c0] at h
  refine ⟨by show m = 0; omega, ?_⟩
  by_cases c1 : k = 1 ∧ s = []
  · rw [if_pos c1] at h
    obtain ⟨rfl, rfl⟩ := c1
    injection h with h _
    subst h
    exact ⟨itoa_alone n hn.1 hn.2, rfl, fun r => rfl⟩
  rw [if_neg c1] at h
  by_cases c2 : k = 2 ∧ s = [] ∧ n = 1
  · rw [if_pos c2] at h
    obtain ⟨rfl, rfl, rfl⟩ := c2
    injection h with h _
    subst h
    exact ⟨alone_word (by decide), rfl, fun r => rfl⟩
  rw [if_neg c2] at h
  by_cases c3 : k = 2 ∧ s = [] ∧ n = 0
  · rw [if_pos c3] at h
    obtain ⟨rfl, rfl, rfl⟩ := c3
    injection h with h _
    subst h
    exact ⟨alone_word (by decide), rfl, fun r => rfl⟩
  rw [if_neg c3] at h
  by_cases c4 : k = 3 ∧ n = 0 ∧ nameB s = true
  · rw [if_pos c4] at h
    obtain ⟨rfl, rfl, h5⟩ := c4
    injection h with h _
    subst h
    obtain ⟨⟨ha, hw⟩, _⟩ := nameB_iff.1 h5
    refine ⟨ha, rfl, fun r => ?_⟩
    show plainP (⟨1, s, 0, 0⟩ :: r) = _
    have hk : kindP ((⟨1, s, 0, 0⟩ : Tok) :: r) = 1 := by
      unfold kindP
      simp [hw]
    unfold plainP
    rw [hk, if_neg (by decide), if_pos rfl]
    rfl
  · rw [if_neg c4] at h; cases h
end Go.Proofs.YtpfhgkielakmoaaGreatDoor
/-
  Rows of expressions, spelled and parsed.
-/
set_option linter.unusedSimpArgs false
set_option linter.unusedVariables false
namespace Go.Proofs.YtpfhgkielakmoaaGreatDoor

def inter {α : Type} (c : α) : List (List α) → List α
  | [] => []
  | [x] => x
  | x :: y :: r => x ++ c :: inter c (y :: r)
def aComma : T3 := (3, [44], 0)
theorem inter_map {α β : Type} (f : α → β) (c : α) : ∀ (l : List (List α)), (inter c l).map f = inter (f c) (l.map (·.map f))
  | [] => rfl
  | [x] => rfl
  | x :: y :: r => by
    show (x ++ c :: inter c (y :: r)).map f = _
    rw [List.map_append, List.map_cons, inter_map f c (y :: r)]
    rfl
theorem join_two (x y : List UInt8) (r : List (List UInt8)) (sep : List UInt8) : Lib.join (x :: y :: r) sep = x ++ (sep ++ Lib.join (y :: r) sep) := by
  rw [Lib.join_cons, Lib.join_cons]
  simp [Lib.joinTail]
/-- What may stand behind an expression: a comma, or a sign that ends. -/
def Stop1 (s : List UInt8) : Prop := ∃ c r, s = c :: r ∧ (c = 44 ∨ c = 41 ∨ c = 93 ∨ c = 59 ∨ c = 125)
theorem stop_glue {s : List UInt8} (h : Stop1 s) (x : T3) : ∀ c r, s = c :: r → glue x c := by
  obtain ⟨d, q, rfl, h⟩ := h
  intro c r e
  injection e with e _
  subst e
  rcases h with rfl | rfl | rfl | rfl | rfl <;> exact ⟨fun _ => by decide, fun _ => by decide, fun _ => by decide⟩
/-- A text that is spelled of tokens, ahead of such a sign. -/
def Spk (t : List UInt8) (ts : List T3) : Prop := ∀ s us, Stop1 s → Sp s us → Sp (t ++ s) (ts ++ us)
theorem Spk.one {x : T3} (h : Alone x) : Spk x.2.1 [x] := fun s us hs hu => Sp.no h (stop_glue hs x) hu
theorem Spk.join : ∀ {l : List (List UInt8 × List T3)}, (∀ g ∈ l, Spk g.1 g.2) → Spk (Lib.join (l.map (·.1)) [44, 32]) (inter aComma (l.map (·.2)))
  | [], _ => fun s us hs hu => hu
  | [g], h => fun s us hs hu => by
    show Sp (Lib.join [g.1] [44, 32] ++ s) (g.2 ++ us)
    rw [Lib.join_one]
    exact h g List.mem_cons_self s us hs hu
  | g :: g' :: r, h => fun s us hs hu => by
    have ih := Spk.join (l := g' :: r) (fun x hx => h x (List.mem_cons_of_mem _ hx)) s us hs hu
    show Sp (Lib.join (g.1 :: g'.1 :: r.map (·.1)) [44, 32] ++ s) ((g.2 ++ aComma :: inter aComma (g'.2 :: r.map (·.2))) ++ us)
    rw [join_two, List.append_assoc, List.append_assoc, List.append_assoc, List.cons_append]
    exact h g List.mem_cons_self _ _ ⟨44, _, rfl, Or.inl rfl⟩ (Sp.sp (x := aComma) (alone_sign (by decide)) ih)
/-- A list in brackets. -/
theorem Spk.list {t : List UInt8} {ts : List T3} (h : Spk t ts) : Spk (91 :: (t ++ [93])) ((3, [91], 0) :: (ts ++ [(3, [93], 0)])) := fun s us hs hu => by
  have h1 : Sp (93 :: s) ((3, [93], 0) :: us) := Sp.no (x := (3, [93], 0)) (alone_sign (by decide)) (stop_glue hs _) hu
  have h2 := h (93 :: s) _ ⟨93, s, rfl, Or.inr (Or.inr (Or.inl rfl))⟩ h1
  have h3 : Sp (91 :: (t ++ 93 :: s)) ((3, [91], 0) :: (ts ++ (3, [93], 0) :: us)) := Sp.no (x := (3, [91], 0)) (alone_sign (by decide)) (fun c r _ => ⟨fun e => absurd e (show (3 : Int) ≠ 1 by decide), fun e => absurd e (show (3 : Int) ≠ 2 by decide), fun e => absurd e (show ([91] : List UInt8) ≠ [58] by decide)⟩) h2
  simpa using h3
-- parsing
theorem isP_cons (s : List UInt8) (t : Tok) (l : List Tok) : isP s (t :: l) = (t.t == s) := rfl
theorem may_yes {s : List UInt8} {t : Tok} {l : List Tok} (h : t.t = s) : mayP s (t :: l) = .ok true l := by
  unfold mayP
  rw [isP_cons, if_pos (by rw [h]; simp)]
  rfl
theorem may_no {s : List UInt8} {t : Tok} {l : List Tok} (h : t.t ≠ s) : mayP s (t :: l) = .ok false (t :: l) := by
  unfold mayP
  rw [isP_cons, if_neg (by simpa using h)]
theorem take_yes {s : List UInt8} {t : Tok} {l : List Tok} (h : t.t = s) : takeP s (t :: l) = .ok () l := by
  unfold takeP
  rw [isP_cons, if_pos (by rw [h]; simp)]
  rfl
theorem bind_of {α β : Type} {f : Pm α} {g : α → Pm β} {l r : List Tok} {x : α} (h : f l = .ok x r) : pbind f g l = g x r := by
  unfold pbind
  rw [h]
theorem exprsGo_of {en : List UInt8} {one : Pm Ex} (hen : en ≠ [44]) {e : Tok} (he : e.t = en) : ∀ (gs : List (List Tok × Ex)) (acc : List Ex) (k : Nat), gs ≠ [] → gs.length ≤ k → (∀ g ∈ gs, ∀ r, one (g.1 ++ r) = .ok g.2 r) → ∀ r,
    exprsGo en one k acc (inter (bare aComma) (gs.map (·.1)) ++ e :: r) = .ok (acc ++ gs.map (·.2)) r
  | [], _, _, h, _, _, _ => absurd rfl h
  | [g], acc, k, _, hk, hg, r => by
    obtain ⟨j, rfl⟩ : ∃ j, k = j + 1 := ⟨k - 1, by simp at hk; omega⟩
    show pbind one _ (g.1 ++ e :: r) = _
    rw [bind_of (hg g List.mem_cons_self _), bind_of (may_yes he)]
    rfl
  | g :: g' :: q, acc, k, _, hk, hg, r => by
    obtain ⟨j, rfl⟩ : ∃ j, k = j + 1 := ⟨k - 1, by simp at hk; omega⟩
    have ih := exprsGo_of hen he (g' :: q) (acc ++ [g.2]) j (by simp) (by simp at hk ⊢; omega) (fun x hx => hg x (List.mem_cons_of_mem _ hx)) r
    show pbind one _ ((g.1 ++ bare aComma :: inter (bare aComma) ((g' :: q).map (·.1))) ++ e :: r) = _
    rw [List.append_assoc, bind_of (hg g List.mem_cons_self _), List.cons_append, bind_of (may_no (fun h => hen h.symm))]
    rw [if_neg (by decide), bind_of (take_yes (s := [44]) (t := bare aComma) rfl), ih]
    simp
theorem exprs_of {en : List UInt8} {one : Pm Ex} (hen : en ≠ [44]) {e : Tok} (he : e.t = en) (gs : List (List Tok × Ex)) (hk : gs.length ≤ 64) (hg : ∀ g ∈ gs, ∀ r, one (g.1 ++ r) = .ok g.2 r) (hf : ∀ g ∈ gs, ∃ t q, g.1 = t :: q ∧ t.t ≠ en) (r : List Tok) :
    exprsP en one (inter (bare aComma) (gs.map (·.1)) ++ e :: r) = .ok (gs.map (·.2)) r := by
  unfold exprsP
  cases gs with
  | nil =>
    show pbind (mayP en) _ (e :: r) = _
    rw [bind_of (may_yes he)]
    rfl
  | cons g q =>
    obtain ⟨t, u, h1, h2⟩ := hf g List.mem_cons_self
    have hh : ∃ v, inter (bare aComma) ((g :: q).map (·.1)) ++ e :: r = t :: v := by
      cases q with
      | nil => exact ⟨u ++ e :: r, by show g.1 ++ _ = _; rw [h1]; rfl⟩
      | cons g' q => exact ⟨_, by show (g.1 ++ _) ++ _ = _; rw [h1]; rfl⟩
    obtain ⟨v, hv⟩ := hh
    rw [hv, bind_of (may_no h2), ← hv]
    exact exprsGo_of hen he (g :: q) [] 64 (by simp) hk hg r
/-- A token that is no sign has not a sign's text. -/
theorem alone_not {x : T3} (h : Alone x) (hk : x.1 ≠ 3) {c : UInt8} (hc : isSign c = true) : x.2.1 ≠ [c] := by
  intro e
  have h1 := h.1
  rw [e] at h1
  have h2 := (alone_sign hc).1
  dsimp only at h2
  rw [h2] at h1
  injection h1 with h1 _
  exact hk h1.symm
end Go.Proofs.YtpfhgkielakmoaaGreatDoor
/-
  Contract of the document's word.
-/
set_option linter.unusedSimpArgs false
set_option linter.unusedVariables false
namespace Go.Proofs.YtpfhgkielakmoaaGreatDoor
open Go.RowKit

end Go.Proofs.YtpfhgkielakmoaaGreatDoor
/-
  The document's value of a number's text.
-/
set_option linter.unusedSimpArgs false
set_option linter.unusedVariables false
namespace Go.Proofs.YtpfhgkielakmoaaGreatDoor
open Go.RowKit Num

end Go.Proofs.YtpfhgkielakmoaaGreatDoor
/-
  The contract of the document's Split.
-/
set_option linter.unusedSimpArgs false
set_option linter.unusedVariables false
namespace Go.Proofs.YtpfhgkielakmoaaGreatDoor
open Go.RowKit Num

end Go.Proofs.YtpfhgkielakmoaaGreatDoor
/-
  Rows of tokens that are read; Join.
-/
set_option linter.unusedSimpArgs false
set_option linter.unusedVariables false
namespace Go.Proofs.YtpfhgkielakmoaaGreatDoor
open Go.RowKit Num

/-- A row of tokens that may be read. -/
structure RdT (w : World) (A : Option Addr) (c : Nat) (l : List Tok) : Prop where
  room : l.length ≤ c
  cap : c ≤ maxLen
  at_ : l ≠ [] → ∃ b o, A = some ⟨b, o, none⟩ ∧ b < w.heap.size ∧ ∀ j (h : j < l.length), w.cell? ⟨b, o + j * 4, none⟩ = some (.int .i64 l[j].k) ∧ w.cell? ⟨b, o + j * 4 + 1, none⟩ = some (.string ⟨l[j].t.toArray⟩) ∧ w.cell? ⟨b, o + j * 4 + 2, none⟩ = some (.int .i64 l[j].v) ∧ w.cell? ⟨b, o + j * 4 + 3, none⟩ = some (.int .i64 l[j].at_)
theorem RdT.below {w w' : World} {A : Option Addr} {c : Nat} {l : List Tok} {B : Nat} (h : RdT w A c l) (hb : Below B w w') (hB : w.heap.size ≤ B) : RdT w' A c l :=
  ⟨h.room, h.cap, fun hn => by
    obtain ⟨b, o, hA, hlt, hc⟩ := h.at_ hn
    have hx : ∀ k, w'.cell? ⟨b, k, none⟩ = w.cell? ⟨b, k, none⟩ := fun k => hb.cell (p := ⟨b, k, none⟩) (show b < B by omega)
    refine ⟨b, o, hA, Nat.lt_of_lt_of_le hlt (hb.size), fun j hj => ?_⟩
    simp only [hx]
    exact hc j hj⟩
theorem RdT.nil {w : World} {A : Option Addr} {c : Nat} (h : c ≤ maxLen) : RdT w A c [] := ⟨Nat.zero_le _, h, fun e => absurd rfl e⟩
theorem tcells_at (l : List Tok) (j : Nat) (h : j < l.length) : (tvals l)[j * 4]? = some (.int .i64 l[j].k) ∧ (tvals l)[j * 4 + 1]? = some (.string ⟨l[j].t.toArray⟩) ∧ (tvals l)[j * 4 + 2]? = some (.int .i64 l[j].v) ∧ (tvals l)[j * 4 + 3]? = some (.int .i64 l[j].at_) := by
  induction l generalizing j with
  | nil => cases h
  | cons t l ih =>
    have e : tvals (t :: l) = tcells t ++ tvals l := rfl
    rw [e]
    cases j with
    | zero => exact ⟨rfl, rfl, rfl, rfl⟩
    | succ j =>
      have h2 := ih j (by simpa using h)
      have e4 : (tcells t).length = 4 := rfl
      have hx : ∀ k, (tcells t ++ tvals l)[(j + 1) * 4 + k]? = (tvals l)[j * 4 + k]? := fun k => by
        rw [List.getElem?_append_right (by rw [e4]; omega), e4]
        congr 1
        omega
      have h0 := hx 0
      rw [Nat.add_zero, Nat.add_zero] at h0
      rw [h0, hx 1, hx 2, hx 3]
      exact h2
theorem OwnT.rd {w : World} {base : Nat} {ty : TypeId} {v : Value} {l : List Tok} (h : OwnT w base ty v l) : ∃ A c, v = .slice A l.length c ∧ RdT w A c l := by
  obtain ⟨_, h2⟩ := h
  rcases h2 with ⟨h2, h3⟩ | ⟨g, cap, cur, hv, hg, hb, hn, hc, hs, ht⟩
  · refine ⟨none, 0, by rw [h2, h3], ?_⟩
    rw [List.length_eq_zero_iff.1 h3]
    exact RdT.nil (Nat.zero_le _)
  · refine ⟨_, _, hv, hn, hc, fun _ => ⟨g, 0, rfl, (Array.getElem?_eq_some_iff.1 hb).1, fun j hj => ?_⟩⟩
    have hx : ∀ k, k < 4 → w.cell? ⟨g, 0 + j * 4 + k, none⟩ = (tvals l)[j * 4 + k]? := fun k hk => by
      rw [cell_of_row w g _ cur ty (0, 0) hb, ← ht, List.getElem?_take_of_lt (by omega)]
      simp
    have h0 := hx 0 (by decide)
    rw [Nat.add_zero, Nat.add_zero] at h0
    obtain ⟨t1, t2, t3, t4⟩ := tcells_at l j hj
    exact ⟨h0.trans t1, (hx 1 (by decide)).trans t2, (hx 2 (by decide)).trans t3, (hx 3 (by decide)).trans t4⟩
end Go.Proofs.YtpfhgkielakmoaaGreatDoor
/-
  What a value in memory reads as, whatever its depth: rows of structs with rows within them; rows of the call's own.
-/
set_option linter.unusedSimpArgs false
set_option linter.unusedVariables false
namespace Go.Proofs.YtpfhgkielakmoaaGreatDoor
open Go.RowKit

/-- A way to read a value: 'P F w v a': in world w, looking into no blocks but F's, v reads as a. -/
structure Dt (α : Type) where
  P : (Nat → Prop) → World → Value → α → Prop
  mono : ∀ {F F' : Nat → Prop} {w v a}, (∀ b, F b → F' b) → P F w v a → P F' w v a
  keep : ∀ {F : Nat → Prop} {w w' : World} {v a}, w.heap.size ≤ w'.heap.size → (∀ b, F b → b < w.heap.size → w'.heap[b]? = w.heap[b]?) → P F w v a → P F w' v a
/-- Without looking into memory. -/
def Dt.eq {α : Type} (f : α → Value) : Dt α := ⟨fun _ _ v a => v = f a, fun _ h => h, fun _ _ h => h⟩
def Dt.via {α β : Type} (D : Dt β) (f : α → β) : Dt α := ⟨fun F w v a => D.P F w v (f a), fun h => D.mono h, fun h1 h2 => D.keep h1 h2⟩
/-- Any value, of which nothing is told. -/
def Dt.any {α : Type} : Dt α := ⟨fun _ _ _ _ => True, fun _ h => h, fun _ _ h => h⟩
/-- How elements lie in rows: their type, how many cells they have, and what each holds. -/
structure Lay (α : Type) where
  ty : TypeId
  sz : Nat
  C : Nat → Dt α
def Lay.row {α : Type} (L : Lay α) : Dt (List α) where
  P F w v l := ∃ A c, v = .slice A l.length c ∧ l.length ≤ c ∧ c ≤ maxLen ∧ (l ≠ [] → ∃ b o, A = some ⟨b, o, none⟩ ∧ F b ∧ b < w.heap.size ∧
    ∀ j (h : j < l.length), ∀ k, k < L.sz → ∃ x, w.cell? ⟨b, o + j * L.sz + k, none⟩ = some x ∧ (L.C k).P F w x l[j])
  mono := by
    rintro F F' w v l hF ⟨A, c, h1, h2, h3, h4⟩
    refine ⟨A, c, h1, h2, h3, fun hn => ?_⟩
    obtain ⟨b, o, h5, h6, h7, h8⟩ := h4 hn
    exact ⟨b, o, h5, hF b h6, h7, fun j hj k hk => by
      obtain ⟨x, hx, hp⟩ := h8 j hj k hk
      exact ⟨x, hx, (L.C k).mono hF hp⟩⟩
  keep := by
    rintro F w w' v l hs hF ⟨A, c, h1, h2, h3, h4⟩
    refine ⟨A, c, h1, h2, h3, fun hn => ?_⟩
    obtain ⟨b, o, h5, h6, h7, h8⟩ := h4 hn
    refine ⟨b, o, h5, h6, Nat.lt_of_lt_of_le h7 hs, fun j hj k hk => ?_⟩
    obtain ⟨x, hx, hp⟩ := h8 j hj k hk
    exact ⟨x, by rw [World.cell?_of_block (hF b h6 h7)]; exact hx, (L.C k).keep hs hF hp⟩
theorem Dt.below {α : Type} (D : Dt α) {F : Nat → Prop} {w w' : World} {v : Value} {a : α} {B : Nat} (h : D.P F w v a) (hb : Below B w w') (hB : w.heap.size ≤ B) : D.P F w' v a :=
  D.keep hb.size (fun b _ hlt => hb.block b (by omega)) h
theorem Dt.grown {α : Type} (D : Dt α) {F : Nat → Prop} {w w' : World} {v : Value} {a : α} {row : Option Nat} (h : D.P F w v a) (hg : w.grownBy w' row) (hF : ∀ b, F b → some b ≠ row) : D.P F w' v a :=
  D.keep hg.size (fun b hb hlt => hg.block b hlt (hF b hb)) h
theorem Lay.row_nil {α : Type} {L : Lay α} {F : Nat → Prop} {w : World} {A : Option Addr} {c : Nat} (h : c ≤ maxLen) : L.row.P F w (.slice A 0 c) [] := ⟨A, c, rfl, Nat.zero_le _, h, fun e => absurd rfl e⟩
theorem Lay.row_len {α : Type} {L : Lay α} {F : Nat → Prop} {w : World} {v : Value} {l : List α} (h : L.row.P F w v l) : ∃ A c, v = .slice A l.length c := by
  obtain ⟨A, c, h1, _⟩ := h
  exact ⟨A, c, h1⟩
/-- A row of the call's own: what it holds looks into none but the call's own blocks, and not into the row itself. -/
def inF (base : Nat) (w : World) (v : Value) : Nat → Prop := fun b => base ≤ b ∧ b < w.heap.size ∧ v.ownBlock ≠ some b
/-- All blocks made since. -/
def since (base : Nat) (w : World) : Nat → Prop := fun b => base ≤ b ∧ b < w.heap.size
def Lay.own {α : Type} (L : Lay α) (base : Nat) (w : World) (v : Value) (l : List α) : Prop :=
  ∃ xs : List Value, w.ownsRow base L.ty L.sz v l.length xs ∧ (∀ u ∈ xs, u.oneCell' = true) ∧ ∀ j (h : j < l.length), ∀ k, k < L.sz → ∃ x, xs[j * L.sz + k]? = some x ∧ (L.C k).P (inF base w v) w x l[j]
theorem Lay.own_nil {α : Type} (L : Lay α) (base : Nat) (w : World) : L.own base w (.slice none 0 0) [] := ⟨[], World.ownsRow_nil w base L.ty L.sz, fun u h => absurd h List.not_mem_nil, fun j h => absurd h (Nat.not_lt_zero _)⟩
theorem Lay.own_len {α : Type} {L : Lay α} {base : Nat} {w : World} {v : Value} {l : List α} (h : L.own base w v l) : ∃ A c, v = .slice A l.length c := by
  obtain ⟨xs, ⟨_, h2⟩, _⟩ := h
  rcases h2 with ⟨h2, h3⟩ | ⟨g, cap, cur, hv, _⟩
  · exact ⟨none, 0, by rw [h2, h3]⟩
  · exact ⟨_, _, hv⟩
theorem Lay.own_lt {α : Type} {L : Lay α} {base : Nat} {w : World} {v : Value} {l : List α} (h : L.own base w v l) : ∀ g, v.ownBlock = some g → base ≤ g ∧ g < w.heap.size := by
  obtain ⟨xs, h, _⟩ := h
  exact fun g hg => ⟨(World.ownsRow.lt h g hg).1, (World.ownsRow.lt h g hg).2⟩
/-- Others write: new blocks, and one that is not the call's own. -/
theorem Lay.own_grown {α : Type} {L : Lay α} {base : Nat} {w w' : World} {v : Value} {l : List α} {row : Option Nat} (h : L.own base w v l) (hg : w.grownBy w' row) (hne : ∀ g, row = some g → g < base) : L.own base w' v l := by
  obtain ⟨xs, h1, h1', h2⟩ := h
  have hv : v.ownBlock = none ∨ v.ownBlock ≠ row := by
    cases hb : v.ownBlock with
    | none => exact Or.inl rfl
    | some g =>
      refine Or.inr fun e => ?_
      have := hne g e.symm
      have := (World.ownsRow.lt h1 g hb).1
      omega
  refine ⟨xs, World.ownsRow.kept h1 hg hv, h1', fun j hj k hk => ?_⟩
  obtain ⟨x, hx, hp⟩ := h2 j hj k hk
  refine ⟨x, hx, (L.C k).mono (fun b hb => ⟨hb.1, Nat.lt_of_lt_of_le hb.2.1 hg.size, hb.2.2⟩) ((L.C k).grown hp hg fun b hb e => ?_)⟩
  have := hne b e.symm
  have := hb.1
  omega
theorem grown_of_below {w w' : World} (h : Below w.heap.size w w') : w.grownBy w' none := ⟨h.os, h.tape, h.output, h.size, fun b hb _ => h.block b hb⟩
theorem Lay.own_below {α : Type} {L : Lay α} {base : Nat} {w w' : World} {v : Value} {l : List α} (h : L.own base w v l) (hb : Below w.heap.size w w') : L.own base w' v l :=
  Lay.own_grown h (grown_of_below hb) (fun g e => by cases e)
/-- A row of the call's own, read. -/
theorem Lay.own_row {α : Type} {L : Lay α} {base : Nat} {w : World} {v : Value} {l : List α} (h : L.own base w v l) : L.row.P (since base w) w v l := by
  obtain ⟨xs, h1, h1', h2⟩ := h
  obtain ⟨_, h3⟩ := h1
  rcases h3 with ⟨rfl, h3⟩ | ⟨g, cap, cur, rfl, hg, hb, hn, hc, hs, ht⟩
  · rw [List.length_eq_zero_iff.1 h3]
    exact Lay.row_nil (Nat.zero_le _)
  · have hgl : g < w.heap.size := (Array.getElem?_eq_some_iff.1 hb).1
    refine ⟨_, _, rfl, hn, hc, fun _ => ⟨g, 0, rfl, ⟨hg, hgl⟩, hgl, fun j hj k hk => ?_⟩⟩
    obtain ⟨x, hx, hp⟩ := h2 j hj k hk
    refine ⟨x, ?_, (L.C k).mono (fun b hb => ⟨hb.1, hb.2.1⟩) hp⟩
    rw [cell_of_row w g _ cur L.ty (0, 0) hb, ← hx, ← ht]
    have hlt : j * L.sz + k < l.length * L.sz := by
      have : (j + 1) * L.sz ≤ l.length * L.sz := Nat.mul_le_mul_right _ hj
      rw [Nat.add_mul, Nat.one_mul] at this
      omega
    rw [List.getElem?_take_of_lt hlt]
    simp
theorem wpList_wanted {P : Program} {ops : Array Oper} {Q : Exit → Act → World → Prop} {a : Act} {w : World} {rest : List Oper} {o : Oper} (hw : Region.wanted o (yielded ops a.tmps) = true)
    (h : ∀ K : Act → World → Prop, (∀ a w, wpList P ops Q rest a w → K a w) → o.wp P a w K Q) : wpList P ops Q (o :: rest) a w :=
  wpList_step fun K hK => by rw [if_pos hw]; exact h K hK
/-- 'append(out, x)': the element lies in the block that was just made (its cells: news). -/
theorem Lay.wp_app {α : Type} (L : Lay α) {P : Program} {ops : Array Oper} {rest : List Oper} {o : Oper} {a : Act} {Q : Exit → Act → World → Prop} (s x : Operand) (w : World) (base : Nat) (v : Value) (l : List α) (y : α) (news : Array Value) {N sl bytes : Nat} {z : Value}
    (hN : N = w.heap.size) (hu : P.underlying sl = some (.slice L.ty)) (hinfo : (P.info? L.ty).map (fun i => (i.zero, i.size, i.bytes)) = some (some z, L.sz, bytes)) (hz : z.cells.size = L.sz) (hpos : 0 < L.sz) (hbt : bytes ≤ 1000)
    (hown : L.own base w v l) (hb : base ≤ w.heap.size) (hlen : l.length ≤ 1000000)
    (hnl : news.size = L.sz) (hn1 : news.toList.all (·.oneCell') = true) (hnew : ∀ k, k < L.sz → ∃ x, news.toList[k]? = some x ∧ (L.C k).P (inF base w v) w x y)
    (hw : Region.wanted o (yielded ops a.tmps) = true) (ho : o.op = .call { callee := .builtin .append, args := #[s, x], argTypes := #[sl, sl] })
    (hs : a.eval s = v) (hx : a.eval x = .slice (some ⟨N, 0, none⟩) 1 1)
    (K : ∀ v' w', L.own base w' v' (l ++ [y]) → w.grownBy w' v.ownBlock → Below base w w' → (v'.ownBlock = v.ownBlock ∨ ∀ g, v'.ownBlock = some g → w.heap.size ≤ g) → wpList P ops Q rest (a.put o.dst v') w') :
    wpList P ops Q (o :: rest) a (w.alloc (.cells news L.ty)) := by
  subst hN
  obtain ⟨xs, h1, h1', h2⟩ := hown
  obtain ⟨i0, hi, hz0, hz1, hz2⟩ := info_parts hinfo
  have hsz : (w.alloc (.cells news L.ty)).heap.size = w.heap.size + 1 := by simp
  have hk := Blk.new w L.ty news
  refine wpList_wanted hw fun KK hKK => ?_
  obtain ⟨v', w', hr, r1, r2, _, r3⟩ := run_append_own_at (P := P) (w.alloc (.cells news L.ty)) base sl o.type L.ty i0 z L.sz bytes hu hi hz0 hz1 hz2 hz hpos v l.length xs (World.ownsRow.alloc h1 _) ⟨w.heap.size, 0, none⟩ 1 1 news.toList (by simpa using hnl)
    (by
      intro j u hj
      rw [show (⟨w.heap.size, 0, none⟩ : Addr).add j = ⟨w.heap.size, j, none⟩ by simp [Addr.add]; exact fun e => e.symm, hk.cell j, ← hj]
      simp)
    (fun u hu => List.all_eq_true.1 hn1 u hu) (by unfold maxLen; omega) (Nat.le_trans (Nat.mul_le_mul_left _ hbt) (by omega)) (by rw [hsz]; omega)
  unfold Oper.wp execOp
  simp only [ho, resolve, invoke, builtin, Sem.run_bind, Sem.run_pure, Result.andThen_ok, List.map_toArray, List.map_cons, List.map_nil, hs, hx, hr]
  have hg : w.grownBy w' v.ownBlock := ⟨r2.os, r2.tape, r2.output, by have := r2.size; rw [hsz] at this; omega, fun k hk hne => by
    rw [r2.block k (by rw [hsz]; omega) hne]
    exact Below.heap_alloc w _ k hk⟩
  have hat : v'.ownBlock = v.ownBlock ∨ ∀ g, v'.ownBlock = some g → w.heap.size ≤ g := by
    rcases r3 with r3 | r3
    · exact Or.inl r3
    · refine Or.inr fun g e => ?_
      rw [r3, hsz] at e
      injection e with e
      omega
  have hF : ∀ b, inF base w v b → inF base w' v' b := fun b hb => ⟨hb.1, Nat.lt_of_lt_of_le hb.2.1 hg.size, fun e => by
    rcases hat with e2 | e2
    · exact hb.2.2 (e2.symm.trans e)
    · have := e2 b e
      have := hb.2.1
      omega⟩
  have hup : ∀ (k : Nat) (u : Value) (t : α), (L.C k).P (inF base w v) w u t → (L.C k).P (inF base w' v') w' u t := fun k u t h =>
    (L.C k).mono hF ((L.C k).grown h hg fun b hb e => hb.2.2 e.symm)
  refine hKK _ _ (K v' w' ⟨xs ++ news.toList, by rw [List.length_append]; exact r1, fun u hu => ?_, fun j hj k hk => ?_⟩ hg ((Below.refl base w).grown hg hb (fun k hk => (World.ownsRow.lt h1 k hk).1)) hat)
  · rcases List.mem_append.1 hu with hu | hu
    · exact h1' u hu
    · exact List.all_eq_true.1 hn1 u hu
  · have hxl : xs.length = l.length * L.sz := h1.1
    by_cases hjl : j < l.length
    · obtain ⟨u, hu, hp⟩ := h2 j hjl k hk
      refine ⟨u, ?_, ?_⟩
      · rw [List.getElem?_append_left (by
          have : (j + 1) * L.sz ≤ l.length * L.sz := Nat.mul_le_mul_right _ hjl
          rw [Nat.add_mul, Nat.one_mul] at this
          omega)]
        exact hu
      · rw [List.getElem_append_left hjl]
        exact hup k u _ hp
    · have hj2 : j = l.length := by rw [List.length_append, List.length_singleton] at hj; omega
      subst hj2
      obtain ⟨u, hu, hp⟩ := hnew k hk
      refine ⟨u, ?_, ?_⟩
      · rw [List.getElem?_append_right (by omega), hxl, Nat.add_sub_cancel_left]
        exact hu
      · simp only [List.getElem_append_right (Nat.le_refl _), Nat.sub_self, List.getElem_singleton]
        exact hup k u _ hp
end Go.Proofs.YtpfhgkielakmoaaGreatDoor

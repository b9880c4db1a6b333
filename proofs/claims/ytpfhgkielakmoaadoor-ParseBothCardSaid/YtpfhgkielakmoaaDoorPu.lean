/-
  What the parser's items hold: few of all, and lists of plain expressions.
-/
import Derived.Test.YtpfhgkielakmoaaDoorPt
import Derived.Test.YtpfhgkielakmoaaDoorPd
set_option linter.unusedSimpArgs false
set_option linter.unusedVariables false
namespace Go.Proofs.YtpfhgkielakmoaaDoor

def Gives {α : Type} (f : Pm α) (p : α → Prop) : Prop := ∀ l x r, f l = .ok x r → p x
theorem gives_ret {α : Type} {p : α → Prop} {x : α} (h : p x) : Gives (pret x) p := fun l y r e => by
  unfold pret at e
  injection e with e _
  rw [← e]
  exact h
theorem gives_bind {α β : Type} {f : Pm α} {g : α → Pm β} {p : α → Prop} {q : β → Prop} (hf : Gives f p) (hg : ∀ x, p x → Gives (g x) q) : Gives (pbind f g) q := fun l y r e => by
  obtain ⟨x, s, h1, h2⟩ := bind_ok e
  exact hg x (hf l x s h1) s y r h2
theorem gives_any {α : Type} (f : Pm α) : Gives f (fun _ => True) := fun _ _ _ _ => trivial
theorem gives_then {α β : Type} {f : Pm α} {g : α → Pm β} {q : β → Prop} (hg : ∀ x, Gives (g x) q) : Gives (pbind f g) q := gives_bind (gives_any f) fun x _ => hg x
theorem gives_wrong {α : Type} {p : α → Prop} : Gives (wrongP : Pm α) p := fun l x r e => by cases e
theorem gives_if {α : Type} {b : Prop} [Decidable b] {f g : Pm α} {p : α → Prop} (hf : Gives f p) (hg : Gives g p) : Gives (if b then f else g) p := by
  by_cases h : b
  · rw [if_pos h]
    exact hf
  · rw [if_neg h]
    exact hg
theorem gives_plain : Gives plainP (fun x => x.l = []) := fun l x r e => by
  unfold plainP at e
  split at e
  · injection e with e _; rw [← e]
  · split at e
    · injection e with e _; rw [← e]
    · split at e
      · injection e with e _; rw [← e]
      · split at e
        · injection e with e _; rw [← e]
        · cases e
theorem gives_exprsGo {en : List UInt8} {one : Pm Ex} {q : Ex → Prop} (h1 : Gives one q) : ∀ (k : Nat) (acc : List Ex), acc.length + k ≤ 64 → (∀ x ∈ acc, q x) → Gives (exprsGo en one k acc) (fun xs => xs.length ≤ 64 ∧ ∀ x ∈ xs, q x)
  | 0, acc, _, _ => fun l x r e => by cases e
  | k + 1, acc, hk, ha => by
    refine gives_bind h1 fun x hx => gives_then fun b => ?_
    have h2 : ∀ y ∈ acc ++ [x], q y := fun y hy => by
      rcases List.mem_append.1 hy with hy | hy
      · exact ha y hy
      · rw [List.mem_singleton.1 hy]
        exact hx
    have h3 : (acc ++ [x]).length + k ≤ 64 := by rw [List.length_append, List.length_singleton]; omega
    exact gives_if (gives_ret ⟨by omega, h2⟩) (gives_then fun _ => gives_exprsGo h1 k _ h3 h2)
theorem gives_exprs {en : List UInt8} {one : Pm Ex} {q : Ex → Prop} (h1 : Gives one q) : Gives (exprsP en one) (fun xs => xs.length ≤ 64 ∧ ∀ x ∈ xs, q x) :=
  gives_then fun b => gives_if (gives_ret ⟨Nat.zero_le _, fun _ h => absurd h List.not_mem_nil⟩) (gives_exprsGo h1 64 [] (Nat.le_refl _) fun _ h => absurd h List.not_mem_nil)
/-- An expression whose list, if it has one, is short and of plain ones. -/
def LowE (x : Ex) : Prop := x.l.length ≤ 64 ∧ ∀ y ∈ x.l, y.m = 0
theorem lowE_nil {x : Ex} (h : x.l = []) : LowE x := by
  unfold LowE
  rw [h]
  exact ⟨Nat.zero_le _, fun _ h => absurd h List.not_mem_nil⟩
theorem gives_expr : Gives exprP LowE := by
  refine gives_then fun b => gives_if (gives_bind (gives_exprs gives_plain) fun xs hx => gives_ret ⟨by simpa using hx.1, fun y hy => ?_⟩) (fun l x r e => lowE_nil (gives_plain l x r e))
  obtain ⟨z, hz, rfl⟩ := List.mem_map.1 hy
  show z.l.length = 0
  rw [hx.2 z hz]
  rfl
theorem gives_domGo : ∀ (k : Nat) (acc : List (Int × Int)), acc.length + k ≤ 256 → Gives (domGo k acc) (fun d => d.length ≤ 256)
  | 0, acc, _ => fun l x r e => by cases e
  | k + 1, acc, hk => gives_then fun n => gives_then fun b => by
    have h3 : (acc ++ [(n, n)]).length + k ≤ 256 := by rw [List.length_append, List.length_singleton]; omega
    exact gives_if (gives_ret (by show (acc ++ [(n, n)]).length ≤ 256; omega)) (gives_then fun _ => gives_domGo k _ h3)
theorem gives_dom : Gives domP (fun d => d.2.length ≤ 256) :=
  gives_then fun b => gives_if (gives_ret (Nat.zero_le _)) (gives_then fun b => gives_if (gives_bind (gives_domGo 256 [] (Nat.le_refl _)) fun d hd => gives_ret hd) (gives_then fun lo => gives_then fun _ => gives_then fun hi => gives_ret (by show 1 ≤ 256; omega)))
def LowI (x : It) : Prop := x.dom.length ≤ 256 ∧ x.vals.length ≤ 64 ∧ ∀ y ∈ x.vals, LowE y
theorem lowI_one {x : Ex} (h : x.l = []) : ([x] : List Ex).length ≤ 64 ∧ ∀ y ∈ [x], LowE y := ⟨by show 1 ≤ 64; omega, fun y hy => by rw [List.mem_singleton.1 hy]; exact lowE_nil h⟩
theorem lowI_nil : ([] : List Ex).length ≤ 64 ∧ ∀ y ∈ ([] : List Ex), LowE y := ⟨Nat.zero_le _, fun _ h => absurd h List.not_mem_nil⟩
theorem gives_variable : Gives variableP LowI :=
  gives_bind gives_dom fun d hd => gives_then fun _ => gives_then fun nm => gives_then fun o => gives_then fun _ => gives_then fun v => gives_if (gives_bind gives_plain fun x hx => gives_ret ⟨hd, lowI_one hx⟩) (gives_ret ⟨hd, lowI_nil⟩)
theorem gives_plains {en : List UInt8} : Gives (exprsP en plainP) (fun xs => xs.length ≤ 64 ∧ ∀ x ∈ xs, LowE x) := fun l x r e => by
  obtain ⟨h1, h2⟩ := gives_exprs gives_plain l x r e
  exact ⟨h1, fun y hy => lowE_nil (h2 y hy)⟩
theorem gives_array : Gives arrayP LowI :=
  gives_then fun _ => gives_then fun _ => gives_then fun _ => gives_then fun n => gives_then fun _ => gives_then fun v => gives_then fun b => gives_then fun _ => gives_then fun nm => gives_then fun o => gives_then fun _ => gives_then fun _ => gives_bind gives_plains fun xs hx => gives_ret ⟨Nat.zero_le _, hx⟩
theorem gives_par : Gives parP LowI :=
  gives_then fun b => gives_then fun _ => gives_then fun nm => gives_then fun _ => fun l x r e => by
    split at e
    · exact gives_bind gives_plain (fun y hy => gives_ret (p := LowI) (x := ⟨1, nm, b, [], 0, false, [y], 0⟩) ⟨Nat.zero_le _, lowI_one hy⟩) l x r e
    · cases e
theorem gives_goal : Gives goalP LowI :=
  gives_then fun _ => gives_if (gives_ret ⟨Nat.zero_le _, lowI_nil⟩) (gives_then fun _ => gives_if (gives_then fun nm => gives_ret ⟨Nat.zero_le _, lowI_nil⟩) (gives_then fun _ => gives_if (gives_then fun nm => gives_ret ⟨Nat.zero_le _, lowI_nil⟩) gives_wrong))
theorem gives_item : Gives itemP LowI := fun l x r e => by
  unfold itemP at e
  split at e
  · exact gives_par l x r e
  · exact (gives_then fun _ => gives_if gives_variable (gives_then fun _ => gives_if gives_array (gives_then fun _ => gives_if (gives_then fun nm => gives_then fun _ => gives_bind (gives_exprs gives_expr) fun xs hx => gives_ret ⟨Nat.zero_le _, hx⟩) (gives_then fun _ => gives_if gives_goal gives_wrong)))) l x r e
theorem gives_all : ∀ (k : Nat) (acc : List It), (∀ x ∈ acc, LowI x) → Gives (allGo k acc) (fun xs => ∀ x ∈ xs, LowI x)
  | k, acc, ha => fun l xs r e => by
    cases l with
    | nil =>
      rw [allGo_nil] at e
      injection e with e _
      rw [← e]
      exact ha
    | cons t l =>
      cases k with
      | zero => cases e
      | succ k =>
        rw [allGo_cons] at e
        obtain ⟨x, s, h1, h2⟩ := bind_ok e
        obtain ⟨u, s2, h3, h4⟩ := bind_ok h2
        refine gives_all k (acc ++ [x]) (fun y hy => ?_) s2 xs r h4
        rcases List.mem_append.1 hy with hy | hy
        · exact ha y hy
        · rw [List.mem_singleton.1 hy]
          exact gives_item _ _ _ h1
theorem textP_low (s : List UInt8) : ∀ x ∈ (textP s).1, LowI x := by
  by_cases h : (splitR s).2.2 = 0
  · rw [textP_ok h]
    cases ha : allGo 512 [] (splitR s).1 with
    | ok x r => exact gives_all 512 [] (fun _ h => absurd h List.not_mem_nil) _ _ _ ha
    | bad e r => exact fun _ h => absurd h List.not_mem_nil
  · rw [textP_bad h]
    exact fun _ h => absurd h List.not_mem_nil
theorem textP_len (s : List UInt8) : (textP s).1.length ≤ 512 := by
  by_cases h : (textP s).2.2 = 0
  · exact ((text_places s).2 h).2.2.2
  · rw [((text_places s).1 h).2.2.1]
    exact Nat.zero_le _
theorem LowE.flat {x : Ex} (h : LowE x) : x.flat = x := by
  obtain ⟨k, n, s, l⟩ := x
  show Ex.mk k n s (l.map Ex0.flat) = _
  congr 1
  have h2 : ∀ y ∈ l, Ex0.flat y = y := fun y hy => by
    obtain ⟨a, b, c, m⟩ := y
    have : m = 0 := h.2 _ hy
    subst this
    rfl
  rw [List.map_congr_left h2, List.map_id']
theorem LowI.flat {x : It} (h : LowI x) : x.flat = x := by
  obtain ⟨k, nm, b, d, z, o, v, a⟩ := x
  show It.mk k nm b d z o (v.map Ex.flat) a = _
  congr 1
  rw [List.map_congr_left fun y hy => (h.2.2 y hy).flat, List.map_id']
theorem flat_all {l : List It} (h : ∀ x ∈ l, LowI x) : l.map It.flat = l := by
  rw [List.map_congr_left fun y hy => (h y hy).flat, List.map_id']
theorem ex0sB_refl : ∀ {l : List Ex0}, (∀ y ∈ l, y.m = 0) → ex0sB l l = true
  | [], _ => rfl
  | y :: l, h => by
    show (ex0B y y && ex0sB l l) = true
    rw [ex0sB_refl fun z hz => h z (List.mem_cons_of_mem _ hz), Bool.and_true]
    simp [ex0B, h y List.mem_cons_self]
theorem exsB_refl : ∀ {l : List Ex}, (∀ x ∈ l, LowE x) → exsB l l = true
  | [], _ => rfl
  | x :: l, h => by
    show (exB x x && exsB l l) = true
    rw [exsB_refl fun z hz => h z (List.mem_cons_of_mem _ hz), Bool.and_true]
    simp [exB, ex0sB_refl (h x List.mem_cons_self).2]
theorem domB_refl : ∀ (l : List (Int × Int)), domB l l = true
  | [] => rfl
  | x :: l => by
    show ((x.1 == x.1 && x.2 == x.2) && domB l l) = true
    rw [domB_refl l]
    simp
theorem itsB_refl : ∀ {l : List It}, (∀ x ∈ l, LowI x) → itsB l l = true
  | [], _ => rfl
  | x :: l, h => by
    show (itB x x && itsB l l) = true
    rw [itsB_refl fun z hz => h z (List.mem_cons_of_mem _ hz), Bool.and_true]
    simp [itB, exsB_refl (h x List.mem_cons_self).2.2, domB_refl]
theorem LowI.few {l : List It} (h : ∀ x ∈ l, LowI x) : ∀ x ∈ l, x.vals.length ≤ 10000 ∧ ∀ y ∈ x.vals, y.l.length ≤ 10000 := fun x hx => ⟨by have := (h x hx).2.1; omega, fun y hy => by have := ((h x hx).2.2 y hy).1; omega⟩
theorem LowI.few3 {l : List It} (h : ∀ x ∈ l, LowI x) : ∀ x ∈ l, x.dom.length ≤ 10000 ∧ x.vals.length ≤ 10000 ∧ ∀ y ∈ x.vals, y.l.length ≤ 10000 := fun x hx => ⟨by have := (h x hx).1; omega, by have := (h x hx).2.1; omega, fun y hy => by have := ((h x hx).2.2 y hy).1; omega⟩
end Go.Proofs.YtpfhgkielakmoaaDoor

/-
  What a value in memory reads as, whatever its depth: rows of structs with rows within them; rows of the call's own.
-/
import Derived.Test.YtpfhgkielakmoaaDoorProg
import Derived.Test.YtpfhgkielakmoaaDoorReg
import Derived.Maps.AppendAt
set_option linter.unusedSimpArgs false
set_option linter.unusedVariables false
namespace Go.Proofs.YtpfhgkielakmoaaDoor
open Go.RowKit

/-- A way to read a value: 'P F w v a': in world w, looking into no blocks but F's, v reads as a. -/
structure Dt (α : Type) where
  P : (Nat → Prop) → World → Value → α → Prop
  mono : ∀ {F F' : Nat → Prop} {w v a}, (∀ b, F b → F' b) → P F w v a → P F' w v a
  keep : ∀ {F : Nat → Prop} {w w' : World} {v a}, w.heap.size ≤ w'.heap.size → (∀ b, F b → b < w.heap.size → w'.heap[b]? = w.heap[b]?) → P F w v a → P F w' v a
/-- Without looking into memory. -/
def Dt.eq {α : Type} (f : α → Value) : Dt α := ⟨fun _ _ v a => v = f a, fun _ h => h, fun _ _ h => h⟩
def Dt.via {α β : Type} (D : Dt β) (f : α → β) : Dt α := ⟨fun F w v a => D.P F w v (f a), fun h => D.mono h, fun h1 h2 => D.keep h1 h2⟩
/-- Any value, of which nothing is told. -/
def Dt.any {α : Type} : Dt α := ⟨fun _ _ _ _ => True, fun _ h => h, fun _ _ h => h⟩
/-- How elements lie in rows: their type, how many cells they have, and what each holds. -/
structure Lay (α : Type) where
  ty : TypeId
  sz : Nat
  C : Nat → Dt α
def Lay.row {α : Type} (L : Lay α) : Dt (List α) where
  P F w v l := ∃ A c, v = .slice A l.length c ∧ l.length ≤ c ∧ c ≤ maxLen ∧ (l ≠ [] → ∃ b o, A = some ⟨b, o, none⟩ ∧ F b ∧ b < w.heap.size ∧
    ∀ j (h : j < l.length), ∀ k, k < L.sz → ∃ x, w.cell? ⟨b, o + j * L.sz + k, none⟩ = some x ∧ (L.C k).P F w x l[j])
  mono := by
    rintro F F' w v l hF ⟨A, c, h1, h2, h3, h4⟩
    refine ⟨A, c, h1, h2, h3, fun hn => ?_⟩
    obtain ⟨b, o, h5, h6, h7, h8⟩ := h4 hn
    exact ⟨b, o, h5, hF b h6, h7, fun j hj k hk => by
      obtain ⟨x, hx, hp⟩ := h8 j hj k hk
      exact ⟨x, hx, (L.C k).mono hF hp⟩⟩
  keep := by
    rintro F w w' v l hs hF ⟨A, c, h1, h2, h3, h4⟩
    refine ⟨A, c, h1, h2, h3, fun hn => ?_⟩
    obtain ⟨b, o, h5, h6, h7, h8⟩ := h4 hn
    refine ⟨b, o, h5, h6, Nat.lt_of_lt_of_le h7 hs, fun j hj k hk => ?_⟩
    obtain ⟨x, hx, hp⟩ := h8 j hj k hk
    exact ⟨x, by rw [World.cell?_of_block (hF b h6 h7)]; exact hx, (L.C k).keep hs hF hp⟩
theorem Dt.below {α : Type} (D : Dt α) {F : Nat → Prop} {w w' : World} {v : Value} {a : α} {B : Nat} (h : D.P F w v a) (hb : Below B w w') (hB : w.heap.size ≤ B) : D.P F w' v a :=
  D.keep hb.size (fun b _ hlt => hb.block b (by omega)) h
theorem Dt.grown {α : Type} (D : Dt α) {F : Nat → Prop} {w w' : World} {v : Value} {a : α} {row : Option Nat} (h : D.P F w v a) (hg : w.grownBy w' row) (hF : ∀ b, F b → some b ≠ row) : D.P F w' v a :=
  D.keep hg.size (fun b hb hlt => hg.block b hlt (hF b hb)) h
theorem Lay.row_nil {α : Type} {L : Lay α} {F : Nat → Prop} {w : World} {A : Option Addr} {c : Nat} (h : c ≤ maxLen) : L.row.P F w (.slice A 0 c) [] := ⟨A, c, rfl, Nat.zero_le _, h, fun e => absurd rfl e⟩
theorem Lay.row_len {α : Type} {L : Lay α} {F : Nat → Prop} {w : World} {v : Value} {l : List α} (h : L.row.P F w v l) : ∃ A c, v = .slice A l.length c := by
  obtain ⟨A, c, h1, _⟩ := h
  exact ⟨A, c, h1⟩
/-- The rest of a row behind its first element. -/
theorem Lay.row_tail {α : Type} {L : Lay α} {F : Nat → Prop} {w : World} {b o c : Nat} {a : α} {l : List α} (h : L.row.P F w (.slice (some ⟨b, o, none⟩) (l.length + 1) c) (a :: l)) :
    L.row.P F w (.slice (some ⟨b, o + L.sz, none⟩) l.length (c - 1)) l := by
  obtain ⟨A, c', h1, h2, h3, h4⟩ := h
  injection h1 with e1 _ e3
  subst e1 e3
  rw [List.length_cons] at h2
  refine ⟨_, _, rfl, by omega, by omega, fun hn => ?_⟩
  obtain ⟨b', o', h5, h6, h7, h8⟩ := h4 (by simp)
  injection h5 with h5
  injection h5 with e1 e2 _
  subst e1 e2
  refine ⟨b, _, rfl, h6, h7, fun j hj k hk => ?_⟩
  have := h8 (j + 1) (by simp; omega) k hk
  rw [Nat.add_mul, Nat.one_mul, ← Nat.add_assoc, Nat.add_right_comm o (j * L.sz)] at this
  exact this
/-- A row of the call's own: what it holds looks into none but the call's own blocks, and not into the row itself. -/
def inF (base : Nat) (w : World) (v : Value) : Nat → Prop := fun b => base ≤ b ∧ b < w.heap.size ∧ v.ownBlock ≠ some b
/-- All blocks made since. -/
def since (base : Nat) (w : World) : Nat → Prop := fun b => base ≤ b ∧ b < w.heap.size
def Lay.own {α : Type} (L : Lay α) (base : Nat) (w : World) (v : Value) (l : List α) : Prop :=
  ∃ xs : List Value, w.ownsRow base L.ty L.sz v l.length xs ∧ (∀ u ∈ xs, u.oneCell' = true) ∧ ∀ j (h : j < l.length), ∀ k, k < L.sz → ∃ x, xs[j * L.sz + k]? = some x ∧ (L.C k).P (inF base w v) w x l[j]
theorem Lay.own_nil {α : Type} (L : Lay α) (base : Nat) (w : World) : L.own base w (.slice none 0 0) [] := ⟨[], World.ownsRow_nil w base L.ty L.sz, fun u h => absurd h List.not_mem_nil, fun j h => absurd h (Nat.not_lt_zero _)⟩
theorem Lay.own_len {α : Type} {L : Lay α} {base : Nat} {w : World} {v : Value} {l : List α} (h : L.own base w v l) : ∃ A c, v = .slice A l.length c := by
  obtain ⟨xs, ⟨_, h2⟩, _⟩ := h
  rcases h2 with ⟨h2, h3⟩ | ⟨g, cap, cur, hv, _⟩
  · exact ⟨none, 0, by rw [h2, h3]⟩
  · exact ⟨_, _, hv⟩
theorem Lay.own_lt {α : Type} {L : Lay α} {base : Nat} {w : World} {v : Value} {l : List α} (h : L.own base w v l) : ∀ g, v.ownBlock = some g → base ≤ g ∧ g < w.heap.size := by
  obtain ⟨xs, h, _⟩ := h
  exact fun g hg => ⟨(World.ownsRow.lt h g hg).1, (World.ownsRow.lt h g hg).2⟩
/-- Others write: new blocks, and one that is not the call's own. -/
theorem Lay.own_grown {α : Type} {L : Lay α} {base : Nat} {w w' : World} {v : Value} {l : List α} {row : Option Nat} (h : L.own base w v l) (hg : w.grownBy w' row) (hne : ∀ g, row = some g → g < base) : L.own base w' v l := by
  obtain ⟨xs, h1, h1', h2⟩ := h
  have hv : v.ownBlock = none ∨ v.ownBlock ≠ row := by
    cases hb : v.ownBlock with
    | none => exact Or.inl rfl
    | some g =>
      refine Or.inr fun e => ?_
      have := hne g e.symm
      have := (World.ownsRow.lt h1 g hb).1
      omega
  refine ⟨xs, World.ownsRow.kept h1 hg hv, h1', fun j hj k hk => ?_⟩
  obtain ⟨x, hx, hp⟩ := h2 j hj k hk
  refine ⟨x, hx, (L.C k).mono (fun b hb => ⟨hb.1, Nat.lt_of_lt_of_le hb.2.1 hg.size, hb.2.2⟩) ((L.C k).grown hp hg fun b hb e => ?_)⟩
  have := hne b e.symm
  have := hb.1
  omega
theorem grown_of_below {w w' : World} (h : Below w.heap.size w w') : w.grownBy w' none := ⟨h.os, h.tape, h.output, h.size, fun b hb _ => h.block b hb⟩
theorem Lay.own_below {α : Type} {L : Lay α} {base : Nat} {w w' : World} {v : Value} {l : List α} (h : L.own base w v l) (hb : Below w.heap.size w w') : L.own base w' v l :=
  Lay.own_grown h (grown_of_below hb) (fun g e => by cases e)
/-- A row of the call's own, read. -/
theorem Lay.own_row {α : Type} {L : Lay α} {base : Nat} {w : World} {v : Value} {l : List α} (h : L.own base w v l) : L.row.P (since base w) w v l := by
  obtain ⟨xs, h1, h1', h2⟩ := h
  obtain ⟨_, h3⟩ := h1
  rcases h3 with ⟨rfl, h3⟩ | ⟨g, cap, cur, rfl, hg, hb, hn, hc, hs, ht⟩
  · rw [List.length_eq_zero_iff.1 h3]
    exact Lay.row_nil (Nat.zero_le _)
  · have hgl : g < w.heap.size := (Array.getElem?_eq_some_iff.1 hb).1
    refine ⟨_, _, rfl, hn, hc, fun _ => ⟨g, 0, rfl, ⟨hg, hgl⟩, hgl, fun j hj k hk => ?_⟩⟩
    obtain ⟨x, hx, hp⟩ := h2 j hj k hk
    refine ⟨x, ?_, (L.C k).mono (fun b hb => ⟨hb.1, hb.2.1⟩) hp⟩
    rw [cell_of_row w g _ cur L.ty (0, 0) hb, ← hx, ← ht]
    have hlt : j * L.sz + k < l.length * L.sz := by
      have : (j + 1) * L.sz ≤ l.length * L.sz := Nat.mul_le_mul_right _ hj
      rw [Nat.add_mul, Nat.one_mul] at this
      omega
    rw [List.getElem?_take_of_lt hlt]
    simp
theorem wpList_wanted {P : Program} {ops : Array Oper} {Q : Exit → Act → World → Prop} {a : Act} {w : World} {rest : List Oper} {o : Oper} (hw : Region.wanted o (yielded ops a.tmps) = true)
    (h : ∀ K : Act → World → Prop, (∀ a w, wpList P ops Q rest a w → K a w) → o.wp P a w K Q) : wpList P ops Q (o :: rest) a w :=
  wpList_step fun K hK => by rw [if_pos hw]; exact h K hK
/-- 'append(out, x)': the element lies in the block that was just made (its cells: news). -/
theorem Lay.wp_app {α : Type} (L : Lay α) {P : Program} {ops : Array Oper} {rest : List Oper} {o : Oper} {a : Act} {Q : Exit → Act → World → Prop} (s x : Operand) (w : World) (base : Nat) (v : Value) (l : List α) (y : α) (news : Array Value) {N sl bytes : Nat} {z : Value}
    (hN : N = w.heap.size) (hu : P.underlying sl = some (.slice L.ty)) (hinfo : (P.info? L.ty).map (fun i => (i.zero, i.size, i.bytes)) = some (some z, L.sz, bytes)) (hz : z.cells.size = L.sz) (hpos : 0 < L.sz) (hbt : bytes ≤ 1000)
    (hown : L.own base w v l) (hb : base ≤ w.heap.size) (hlen : l.length ≤ 1000000)
    (hnl : news.size = L.sz) (hn1 : news.toList.all (·.oneCell') = true) (hnew : ∀ k, k < L.sz → ∃ x, news.toList[k]? = some x ∧ (L.C k).P (inF base w v) w x y)
    (hw : Region.wanted o (yielded ops a.tmps) = true) (ho : o.op = .call { callee := .builtin .append, args := #[s, x], argTypes := #[sl, sl] })
    (hs : a.eval s = v) (hx : a.eval x = .slice (some ⟨N, 0, none⟩) 1 1)
    (K : ∀ v' w', L.own base w' v' (l ++ [y]) → w.grownBy w' v.ownBlock → Below base w w' → (v'.ownBlock = v.ownBlock ∨ ∀ g, v'.ownBlock = some g → w.heap.size ≤ g) → wpList P ops Q rest (a.put o.dst v') w') :
    wpList P ops Q (o :: rest) a (w.alloc (.cells news L.ty)) := by
  subst hN
  obtain ⟨xs, h1, h1', h2⟩ := hown
  obtain ⟨i0, hi, hz0, hz1, hz2⟩ := info_parts hinfo
  have hsz : (w.alloc (.cells news L.ty)).heap.size = w.heap.size + 1 := by simp
  have hk := Blk.new w L.ty news
  refine wpList_wanted hw fun KK hKK => ?_
  obtain ⟨v', w', hr, r1, r2, _, r3⟩ := run_append_own_at (P := P) (w.alloc (.cells news L.ty)) base sl o.type L.ty i0 z L.sz bytes hu hi hz0 hz1 hz2 hz hpos v l.length xs (World.ownsRow.alloc h1 _) ⟨w.heap.size, 0, none⟩ 1 1 news.toList (by simpa using hnl)
    (by
      intro j u hj
      rw [show (⟨w.heap.size, 0, none⟩ : Addr).add j = ⟨w.heap.size, j, none⟩ by simp [Addr.add]; exact fun e => e.symm, hk.cell j, ← hj]
      simp)
    (fun u hu => List.all_eq_true.1 hn1 u hu) (by unfold maxLen; omega) (Nat.le_trans (Nat.mul_le_mul_left _ hbt) (by omega)) (by rw [hsz]; omega)
  unfold Oper.wp execOp
  simp only [ho, resolve, invoke, builtin, Sem.run_bind, Sem.run_pure, Result.andThen_ok, List.map_toArray, List.map_cons, List.map_nil, hs, hx, hr]
  have hg : w.grownBy w' v.ownBlock := ⟨r2.os, r2.tape, r2.output, by have := r2.size; rw [hsz] at this; omega, fun k hk hne => by
    rw [r2.block k (by rw [hsz]; omega) hne]
    exact Below.heap_alloc w _ k hk⟩
  have hat : v'.ownBlock = v.ownBlock ∨ ∀ g, v'.ownBlock = some g → w.heap.size ≤ g := by
    rcases r3 with r3 | r3
    · exact Or.inl r3
    · refine Or.inr fun g e => ?_
      rw [r3, hsz] at e
      injection e with e
      omega
  have hF : ∀ b, inF base w v b → inF base w' v' b := fun b hb => ⟨hb.1, Nat.lt_of_lt_of_le hb.2.1 hg.size, fun e => by
    rcases hat with e2 | e2
    · exact hb.2.2 (e2.symm.trans e)
    · have := e2 b e
      have := hb.2.1
      omega⟩
  have hup : ∀ (k : Nat) (u : Value) (t : α), (L.C k).P (inF base w v) w u t → (L.C k).P (inF base w' v') w' u t := fun k u t h =>
    (L.C k).mono hF ((L.C k).grown h hg fun b hb e => hb.2.2 e.symm)
  refine hKK _ _ (K v' w' ⟨xs ++ news.toList, by rw [List.length_append]; exact r1, fun u hu => ?_, fun j hj k hk => ?_⟩ hg ((Below.refl base w).grown hg hb (fun k hk => (World.ownsRow.lt h1 k hk).1)) hat)
  · rcases List.mem_append.1 hu with hu | hu
    · exact h1' u hu
    · exact List.all_eq_true.1 hn1 u hu
  · have hxl : xs.length = l.length * L.sz := h1.1
    by_cases hjl : j < l.length
    · obtain ⟨u, hu, hp⟩ := h2 j hjl k hk
      refine ⟨u, ?_, ?_⟩
      · rw [List.getElem?_append_left (by
          have : (j + 1) * L.sz ≤ l.length * L.sz := Nat.mul_le_mul_right _ hjl
          rw [Nat.add_mul, Nat.one_mul] at this
          omega)]
        exact hu
      · rw [List.getElem_append_left hjl]
        exact hup k u _ hp
    · have hj2 : j = l.length := by rw [List.length_append, List.length_singleton] at hj; omega
      subst hj2
      obtain ⟨u, hu, hp⟩ := hnew k hk
      refine ⟨u, ?_, ?_⟩
      · rw [List.getElem?_append_right (by omega), hxl, Nat.add_sub_cancel_left]
        exact hu
      · simp only [List.getElem_append_right (Nat.le_refl _), Nat.sub_self, List.getElem_singleton]
        exact hup k u _ hp
end Go.Proofs.YtpfhgkielakmoaaDoor

/-
  Rows of tokens; the contract of lex.Split.
-/
import Derived.Test.YtpfhgkielakmoaaDoorTd
set_option linter.unusedSimpArgs false
set_option linter.unusedVariables false
namespace Go.Proofs.YtpfhgkielakmoaaDoor
open Go.RowKit

def tcells (t : Tok) : List Value := [.int .i64 t.k, .string ⟨t.t.toArray⟩, .int .i64 t.v, .int .i64 t.at_]
def tvals (l : List Tok) : List Value := l.flatMap tcells
theorem tvals_len (l : List Tok) : (tvals l).length = l.length * 4 := by
  induction l with
  | nil => rfl
  | cons x r ih =>
    show (tcells x ++ tvals r).length = _
    rw [List.length_append, ih]
    show 4 + _ = (r.length + 1) * 4
    omega
theorem tvals_append (l : List Tok) (t : Tok) : tvals (l ++ [t]) = tvals l ++ tcells t := by
  unfold tvals
  rw [List.flatMap_append]
  simp
def OwnT (w : World) (base : Nat) (ty : TypeId) (v : Value) (l : List Tok) : Prop := w.ownsRow base ty 4 v l.length (tvals l)
theorem OwnT.nil (w : World) (base : Nat) (ty : TypeId) : OwnT w base ty (.slice none 0 0) [] := World.ownsRow_nil w base ty 4
theorem OwnT.alloc {w : World} {base : Nat} {ty : TypeId} {v : Value} {l : List Tok} (h : OwnT w base ty v l) (o : Obj) : OwnT (w.alloc o) base ty v l := World.ownsRow.alloc h o
theorem OwnT.kept {w w' : World} {base : Nat} {ty : TypeId} {v : Value} {l : List Tok} (h : OwnT w base ty v l) {row : Option Nat} (hg : w.grownBy w' row) (hne : v.ownBlock = none ∨ v.ownBlock ≠ row) : OwnT w' base ty v l := World.ownsRow.kept h hg hne
theorem OwnT.other {w w' : World} {base g : Nat} {ty : TypeId} {v : Value} {l : List Tok} (h : OwnT w base ty v l) (hg : w.grownBy w' (some g)) (hlt : g < base) : OwnT w' base ty v l := by
  refine h.kept hg (.inr fun e => ?_)
  have := (World.ownsRow.lt h g e).1
  omega
theorem OwnT.below {w w' : World} {base : Nat} {ty : TypeId} {v : Value} {l : List Tok} (h : OwnT w base ty v l) (hb : Below w.heap.size w w') : OwnT w' base ty v l := by
  obtain ⟨h1, h2⟩ := h
  refine ⟨h1, ?_⟩
  rcases h2 with h2 | ⟨g, cap, cur, hv, hg, hh, r⟩
  · exact Or.inl h2
  · exact Or.inr ⟨g, cap, cur, hv, hg, by rw [hb.block g (Array.getElem?_eq_some_iff.1 hh).1]; exact hh, r⟩
theorem OwnT.weaken {w : World} {base base' : Nat} {ty : TypeId} {v : Value} {l : List Tok} (h : OwnT w (base + base') ty v l) : OwnT w base ty v l := by
  obtain ⟨h1, h2⟩ := h
  refine ⟨h1, ?_⟩
  rcases h2 with h2 | ⟨g, cap, cur, hv, hg, r⟩
  · exact Or.inl h2
  · exact Or.inr ⟨g, cap, cur, hv, by omega, r⟩
theorem OwnT.len {w : World} {base : Nat} {ty : TypeId} {v : Value} {l : List Tok} (h : OwnT w base ty v l) : ∃ A c, v = .slice A l.length c := by
  obtain ⟨_, h2⟩ := h
  rcases h2 with ⟨h2, h3⟩ | ⟨g, cap, cur, hv, _⟩
  · exact ⟨none, 0, by rw [h2, h3]⟩
  · exact ⟨_, _, hv⟩
theorem info_tok : (Tryd.prog.info? 36).map (fun i => (i.zero, i.size, i.bytes)) = some (some (.agg #[.int .i64 0, .string ⟨#[]⟩, .int .i64 0, .int .i64 0]), 4, 40) := by kernel_rfl
/-- 'append(out, t)' on a row of tokens of the call's own. -/
theorem wp_appT {ops : Array Oper} {rest : List Oper} {o : Oper} {a : Act} {Q : Exit → Act → World → Prop} (s x : Operand) (w : World) (base : Nat) (v : Value) (l : List Tok) (t : Tok) {u : ByteArray} {A : Int} {N : Nat} (hN : N = w.heap.size) (hu : u = ⟨t.t.toArray⟩) (hA : A = (t.at_ : Int))
    (hown : OwnT w base 36 v l) (hb : base ≤ w.heap.size) (hlen : l.length ≤ 1000000)
    (hgd : o.guard = none) (ho : o.op = .call { callee := .builtin .append, args := #[s, x], argTypes := #[27, 27] })
    (hs : a.eval s = v) (hx : a.eval x = .slice (some ⟨N, 0, none⟩) 1 1)
    (K : ∀ v' w', OwnT w' base 36 v' (l ++ [t]) → w.grownBy w' v.ownBlock → Below base w w' → wpList Tryd.prog ops Q rest (a.put o.dst v') w') :
    wpList Tryd.prog ops Q (o :: rest) a (w.alloc (.cells #[.int .i64 t.k, .string u, .int .i64 t.v, .int .i64 A] 36)) := by
  subst hu hA hN
  obtain ⟨i0, hi, hz0, hz1, hz2⟩ := info_parts info_tok
  have hsz : (w.alloc (.cells #[.int .i64 t.k, .string ⟨t.t.toArray⟩, .int .i64 t.v, .int .i64 (t.at_ : Int)] 36)).heap.size = w.heap.size + 1 := by simp
  have hk := Blk.new w 36 #[.int .i64 t.k, .string ⟨t.t.toArray⟩, .int .i64 t.v, .int .i64 (t.at_ : Int)]
  refine wpList_append_own _ hgd s x 27 ho base 36 i0 _ 4 40 Tryd.underlying27 hi hz0 hz1 hz2 rfl (by decide) v l.length (tvals l) hs (hown.alloc _) ⟨w.heap.size, 0, none⟩ 1 1 (tcells t) hx rfl
    ?_ ?_ ?_ ?_ ?_ ?_
  · intro j y hj
    rw [show (⟨w.heap.size, 0, none⟩ : Addr).add j = ⟨w.heap.size, j, none⟩ by simp [Addr.add]; exact fun e => e.symm]
    rw [hk.cell j]
    rw [← hj]
    simp [tcells]
  · intro y hy
    simp only [tcells, List.mem_cons, List.not_mem_nil, or_false] at hy
    rcases hy with rfl | rfl | rfl | rfl <;> rfl
  · unfold maxLen; omega
  · omega
  · rw [hsz]; omega
  · intro v' w' h1 h2 _
    have hg : w.grownBy w' v.ownBlock := ⟨h2.os, h2.tape, h2.output, by have := h2.size; rw [hsz] at this; omega, fun k hk hne => by
      rw [h2.block k (by rw [hsz]; omega) hne]
      exact Below.heap_alloc w _ k hk⟩
    refine K v' w' ?_ hg ?_
    · unfold OwnT
      rw [tvals_append, List.length_append]
      exact h1
    · refine (Below.refl base w).grown hg hb (fun k hk => (World.ownsRow.lt hown k hk).1)
end Go.Proofs.YtpfhgkielakmoaaDoor

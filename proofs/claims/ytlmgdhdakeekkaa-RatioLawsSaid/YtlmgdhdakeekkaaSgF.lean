/-
  The law's own helpers: few, right, alive of touchstonelaw03.
  alive of touchstonelaw03.
  A memory as a list of known blocks and of slices that read as digits.
-/
import Derived.Test.YtlmgdhdakeekkaaSgE
set_option linter.unusedSimpArgs false
set_option linter.unusedVariables false
namespace Go.Proofs.Ytlmgdhdakeekkaa
open Go.RowKit Num

/-- A number in memory. -/
structure El where
  n : Bool
  A : Option Addr
  xs : List Nat
  c : Nat
/-- Block g holds these numbers. -/
def Els (w : World) (g : Nat) (L : List El) : Prop := g < w.heap.size ∧ ∀ i (h : i < L.length), w.cell? ⟨g, i * 2, none⟩ = some (.bool L[i].n) ∧ w.cell? ⟨g, i * 2 + 1, none⟩ = some (.slice L[i].A L[i].xs.length L[i].c) ∧ Rd w L[i].A L[i].c L[i].xs
theorem Els.below {w w' : World} {g : Nat} {L : List El} (h : Els w g L) (hb : Below w.heap.size w w') : Els w' g L :=
  ⟨Nat.lt_of_lt_of_le h.1 hb.size, fun i hi => ⟨(hb.cell (p := ⟨g, i * 2, none⟩) h.1).trans (h.2 i hi).1, (hb.cell (p := ⟨g, i * 2 + 1, none⟩) h.1).trans (h.2 i hi).2.1, (h.2 i hi).2.2.below hb (Nat.le_refl _)⟩⟩
def fewL (L : List El) : Bool := L.all fun e => decide (e.xs.length ≤ 30)
def rightL (L : List El) : Bool := L.all fun e => sright e.n e.xs
theorem all_step {α : Type} {p : α → Bool} {L : List α} {k : Nat} (hk : k < L.length) (h : (L.take k).all p = true) (h2 : p L[k] = true) : (L.take (k + 1)).all p = true := by
  rw [List.take_succ_eq_append_getElem hk, List.all_append, h]
  simp [h2]
theorem all_end {α : Type} {p : α → Bool} {L : List α} {k : Nat} (hk : k = L.length) (h : (L.take k).all p = true) : L.all p = true := by
  subst hk
  rwa [List.take_length] at h
theorem all_no {α : Type} {p : α → Bool} {L : List α} {k : Nat} (hk : k < L.length) (h2 : p L[k] = false) : L.all p = false := by
  rw [List.all_eq_false]
  exact ⟨_, List.getElem_mem hk, by simp [h2]⟩

end Go.Proofs.Ytlmgdhdakeekkaa

namespace Go.Proofs.Ytlmgdhdakeekkaa
open Go.RowKit Num

theorem sD_small {z : Int} {k : Nat} (h : z.natAbs < 4294967296 ^ k) : (sD z).length ≤ k := dig_length_le h
theorem sdiv_sd {a b : Int} (ha : (sD a).length ≤ 256) (hb : (sD b).length ≤ 256) (h : b ≠ 0) (hq : (sD (Int.fdiv a b)).length ≤ 256) : sdivR (sN a) (sD a) (sN b) (sD b) = dok (Int.fdiv a b) (Int.fmod a b) := by
  rw [sdivR_eq (sright_sd ha) (sright_sd hb) (fun e => h (sD_nil.1 e)), sv_sd, sv_sd, if_pos hq]
theorem sgcd_sd {a b : Int} (ha : (sD a).length ≤ 256) (hb : (sD b).length ≤ 256) : sgcdR (sN a) (sD a) (sN b) (sD b) = sok (Nat.gcd a.natAbs b.natAbs) := by
  rw [sgcdR_eq (sright_sd ha) (sright_sd hb)]
  unfold sD
  rw [val_dig, val_dig]
theorem alive_sdiv : sdivR (sN (-7)) (sD (-7)) (sN 2) (sD 2) = (sN (-4), sD (-4), sN 1, sD 1, 0) :=
  sdiv_sd (Nat.le_trans (sD_small (k := 1) (by decide)) (by decide)) (Nat.le_trans (sD_small (k := 1) (by decide)) (by decide)) (by decide) (Nat.le_trans (sD_small (k := 1) (by decide)) (by decide))
theorem alive_sgcd : sgcdR (sN 12) (sD 12) (sN (-18)) (sD (-18)) = (sN 6, sD 6, 0) :=
  sgcd_sd (Nat.le_trans (sD_small (k := 1) (by decide)) (by decide)) (Nat.le_trans (sD_small (k := 1) (by decide)) (by decide))
theorem alive_ssmall : ssmallR true [0, 2147483648] = (-9223372036854775808, 0) := by
  rw [ssmallR_eq (sright_of (right2 (by decide)) (fun _ => by simp))]
  have e : sv true [0, 2147483648] = -9223372036854775808 := by simp [sv, val]
  rw [e, if_pos (by decide)]
theorem rsame_self {n : Bool} {A B : Option Addr} {c d : Nat} {xs : List Nat} {w : World} (ha : Rd w A c xs) (hb : Rd w B d xs) (hs : xs.length ≤ 1000000) :
    Calls Try.prog 33 #[iv n A xs.length c, iv n B xs.length d] w fun e w' => e = .returned (.bool true) ∧ Below w.heap.size w w' :=
  (rssame_any n n A B c d xs xs w ha hb hs hs).mono fun _ _ ⟨h1, h2⟩ => ⟨by rw [h1]; simp, h2⟩
theorem ssmall_use {n : Bool} {A : Option Addr} {c k : Nat} {xs : List Nat} {w : World} (ha : Rd w A c xs) (hk : xs.length = k) :
    Calls Try.prog 21 #[iv n A k c] w fun e w' => e = .returned (.tuple #[.int .i64 (ssmallR n xs).1, .int .i64 (ssmallR n xs).2]) ∧ Below w.heap.size w w' := by
  subst hk
  exact ssmall_any n A c xs w ha
theorem sright_sok {n : Bool} {A : Option Addr} {c : Nat} {xs : List Nat} {w : World} (ha : Rd w A c xs) (h : sright n xs = true) :
    Calls Try.prog 38 #[iv n A xs.length c] w fun e w' => e = .returned (.bool true) ∧ Below w.heap.size w w' :=
  (sright_any n A c xs w ha).mono fun _ _ ⟨h1, h2⟩ => ⟨by rw [h1, h], h2⟩

end Go.Proofs.Ytlmgdhdakeekkaa

namespace Go.Proofs.Ytlmgdhdakeekkaa
open Go.RowKit Num

structure Mem (w0 w : World) (Ks : List (Nat × TypeId × Array Value)) (Rs : List (Option Addr × Nat × List Nat)) : Prop where
  bel : Below w0.heap.size w0 w
  ks : ∀ k ∈ Ks, Blk w k.1 k.2.1 k.2.2
  rs : ∀ r ∈ Rs, Rd w r.1 r.2.1 r.2.2
variable {w0 w w' : World} {Ks : List (Nat × TypeId × Array Value)} {Rs : List (Option Addr × Nat × List Nat)}
theorem Mem.start (w : World) : Mem w w [] [] := ⟨Below.refl _ _, fun _ h => by simp at h, fun _ h => by simp at h⟩
theorem Mem.below (h : Mem w0 w Ks Rs) (q : Below w.heap.size w w') : Mem w0 w' Ks Rs :=
  ⟨below_trans h.bel q, fun k hk => (h.ks k hk).below q (Nat.le_refl _), fun r hr => (h.rs r hr).below q (Nat.le_refl _)⟩
theorem Mem.drew (h : Mem w0 w Ks Rs) : Mem w0 w.drew Ks Rs := ⟨h.bel.trans ((Read.refl w).drew.below _), fun k hk => (h.ks k hk).drew, fun r hr => (h.rs r hr).drew⟩
theorem Mem.drewN (h : Mem w0 w Ks Rs) (n : Nat) : Mem w0 (w.drewN n) Ks Rs := ⟨h.bel.trans ((Read.refl w).drewN n |>.below _), fun k hk => (h.ks k hk).drewN n, fun r hr => (h.rs r hr).drewN n⟩
theorem Mem.alloc (h : Mem w0 w Ks Rs) (o : Obj) : Mem w0 (w.alloc o) Ks Rs := h.below (below_alloc1 w o)
theorem Mem.k (h : Mem w0 w Ks Rs) {i : Nat} {g : Nat} {t : TypeId} {cs : Array Value} (hi : Ks[i]? = some (g, t, cs)) : Blk w g t cs := h.ks _ (List.mem_of_getElem? hi)
theorem Mem.r (h : Mem w0 w Ks Rs) {i : Nat} {A : Option Addr} {c : Nat} {xs : List Nat} (hi : Rs[i]? = some (A, c, xs)) : Rd w A c xs := h.rs _ (List.mem_of_getElem? hi)
theorem Mem.addK (h : Mem w0 w Ks Rs) {g : Nat} {t : TypeId} {cs : Array Value} (hb : Blk w g t cs) : Mem w0 w ((g, t, cs) :: Ks) Rs :=
  ⟨h.bel, fun k hk => by
    rcases List.mem_cons.1 hk with rfl | hk
    · exact hb
    · exact h.ks k hk, h.rs⟩
theorem Mem.addR (h : Mem w0 w Ks Rs) {A : Option Addr} {c : Nat} {xs : List Nat} (hr : Rd w A c xs) : Mem w0 w Ks ((A, c, xs) :: Rs) :=
  ⟨h.bel, h.ks, fun r hk => by
    rcases List.mem_cons.1 hk with rfl | hk
    · exact hr
    · exact h.rs r hk⟩
theorem Mem.new (h : Mem w0 w Ks Rs) (t : TypeId) (cs : Array Value) : Mem w0 (w.alloc (.cells cs t)) ((w.heap.size, t, cs) :: Ks) Rs := (h.alloc _).addK (Blk.new w t cs)
theorem Mem.newAt (h : Mem w0 w Ks Rs) {g : Nat} (hg : g = w.heap.size) (t : TypeId) (cs : Array Value) : Mem w0 (w.alloc (.cells cs t)) ((g, t, cs) :: Ks) Rs := by subst hg; exact h.new t cs
theorem Mem.tailK {x : Nat × TypeId × Array Value} (h : Mem w0 w (x :: Ks) Rs) : Mem w0 w Ks Rs := ⟨h.bel, fun k hk => h.ks k (List.mem_cons_of_mem _ hk), h.rs⟩
/-- The head block of a number is written anew. -/
theorem Mem.put {g : Nat} {t : TypeId} {n : Bool} {A : Option Addr} {l c : Nat} (h : Mem w0 w ((g, t, #[.bool n, .slice A l c]) :: Ks) Rs) (hg : w0.heap.size ≤ g) (hne : ∀ k ∈ Ks, k.1 ≠ g) (m : Bool) (B : Option Addr) (k d : Nat) :
    Mem w0 ((w.setCell ⟨g, 0, none⟩ (.bool m)).setCell ⟨g, 1, none⟩ (.slice B k d)) ((g, t, #[.bool m, .slice B k d]) :: Ks) Rs :=
  ⟨below_put h.bel hg _ _, fun x hx => by
    rcases List.mem_cons.1 hx with rfl | hx
    · exact (h.k (i := 0) rfl).put _ _
    · exact (h.ks x (List.mem_cons_of_mem _ hx)).away (hne x hx) _ _, fun r hr => (h.rs r hr).put (h.k (i := 0) rfl).ib m _⟩
theorem Mem.lt (h : Mem w0 w Ks Rs) : ∀ k ∈ Ks, k.1 < w.heap.size := fun k hk => (h.ks k hk).lt
end Go.Proofs.Ytlmgdhdakeekkaa

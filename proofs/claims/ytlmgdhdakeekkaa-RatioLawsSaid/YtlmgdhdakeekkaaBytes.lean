/-
  Words for rows of bytes of the call's own; the contract of slices.Reverse on them.
-/
import Derived.Test.YtlmgdhdakeekkaaBase
import Derived.Test.YtlmgdhdakeekkaaDec
import Derived.RegionTactic
import Derived.BigRegion
import Derived.Laws.IdiomStrings
import Derived.Maps.AppendAt
namespace Go.Proofs.Ytlmgdhdakeekkaa
open Go.RowKit Num

/-- A byte as a value. -/
def bv (b : UInt8) : Value := .int .u8 (b.toNat : Int)
def OwnB (w : World) (base : Nat) (v : Value) (bs : List UInt8) : Prop := w.ownsRow base 5 1 v bs.length (bs.map bv)
theorem info_u8 : (Try.prog.info? 5).map (fun i => (i.zero, i.size, i.bytes)) = some (some (.int .u8 0), 1, 1) := by kernel_rfl
theorem OwnB.nil (w : World) (base : Nat) : OwnB w base (.slice none 0 0) [] := World.ownsRow_nil w base 5 1
theorem OwnB.alloc {w : World} {base : Nat} {v : Value} {xs : List UInt8} (h : OwnB w base v xs) (o : Obj) : OwnB (w.alloc o) base v xs := World.ownsRow.alloc h o
theorem OwnB.drewN {w : World} {base : Nat} {v : Value} {xs : List UInt8} (h : OwnB w base v xs) (n : Nat) : OwnB (w.drewN n) base v xs := h
theorem OwnB.below {w w' : World} {base : Nat} {v : Value} {xs : List UInt8} (h : OwnB w base v xs) {B : Nat} (hb : Below B w w') (hB : w.heap.size ≤ B) : OwnB w' base v xs := by
  obtain ⟨h1, h2⟩ := h
  refine ⟨h1, ?_⟩
  rcases h2 with h2 | ⟨g, cap, cur, hv, hg, hh, r⟩
  · exact Or.inl h2
  · have : g < w.heap.size := (Array.getElem?_eq_some_iff.1 hh).1
    exact Or.inr ⟨g, cap, cur, hv, hg, by rw [hb.block g (by omega)]; exact hh, r⟩
theorem OwnB.form {w : World} {base : Nat} {v : Value} {xs : List UInt8} (h : OwnB w base v xs) : (v = .slice none 0 0 ∧ xs = []) ∨ ∃ g cap, v = .slice (some ⟨g, 0, none⟩) xs.length cap ∧ base ≤ g ∧ xs.length ≤ cap ∧ cap ≤ maxLen := by
  rcases h.2 with ⟨hv, h0⟩ | ⟨g, cap, cur, hv, hg, _, hc, hm, _⟩
  · exact .inl ⟨hv, List.eq_nil_of_length_eq_zero h0⟩
  · exact .inr ⟨g, cap, hv, hg, hc, hm⟩

/-- 'append(out, b)' on a slice of bytes of the call's own. -/
theorem wp_appb1 {ops : Array Oper} {rest : List Oper} {o : Oper} {a : Act} {Q : Exit → Act → World → Prop} (s x : Operand) (w : World) (base : Nat) (v : Value) (xs : List UInt8) (d : UInt8) {D : Int} (hD : D = (d.toNat : Int))
    (hown : OwnB w base v xs) (hb : base ≤ w.heap.size) (hlen : xs.length ≤ 100000000)
    (hgd : o.guard = none) (ho : o.op = .call { callee := .builtin .append, args := #[s, x], argTypes := #[101, 101] })
    (hs : a.eval s = v) (hx : a.eval x = .slice (some ⟨w.heap.size, 0, none⟩) 1 1)
    (K : ∀ v' w', OwnB w' base v' (xs ++ [d]) → w.grownBy w' v.ownBlock → Below base w w' → (v'.ownBlock = v.ownBlock ∨ ∃ g, v'.ownBlock = some g ∧ w.heap.size ≤ g) → wpList Try.prog ops Q rest (a.put o.dst v') w') :
    wpList Try.prog ops Q (o :: rest) a (w.alloc (.cells #[.int .u8 D] 5)) := by
  subst hD
  obtain ⟨i0, hi, hz0, hz1, hz2⟩ := info_parts info_u8
  have hsz : (w.alloc (.cells #[.int .u8 (d.toNat : Int)] 5)).heap.size = w.heap.size + 1 := by simp
  refine wpList_append_own_at _ hgd s x 101 ho base 5 i0 (.int .u8 0) 1 1 Try.underlying101 hi hz0 hz1 hz2 rfl (by decide) v xs.length (xs.map bv) hs (hown.alloc _) ⟨w.heap.size, 0, none⟩ 1 1 [bv d] hx rfl
    ?_ ?_ ?_ ?_ ?_ ?_
  · intro j u hj
    match j, hj with
    | 0, hj =>
      simp at hj
      subst hj
      simp [Addr.add, bv]
  · intro u hu
    simp at hu
    subst hu
    rfl
  · unfold maxLen; omega
  · omega
  · rw [hsz]; omega
  · intro v' w' h1 h2 _ hat
    have hg : w.grownBy w' v.ownBlock := ⟨h2.os, h2.tape, h2.output, by have := h2.size; rw [hsz] at this; omega, fun k hk hne => by
      rw [h2.block k (by rw [hsz]; omega) hne]
      exact Below.heap_alloc w _ k hk⟩
    refine K v' w' ?_ hg ?_ (hat.imp id (fun h => ⟨_, h, by rw [hsz]; omega⟩))
    · unfold OwnB
      simpa using h1
    · refine (Below.refl base w).grown hg hb (fun k hk => (hown.lt k hk).1)

/-- 'string(out)'. -/
theorem OwnB.text {w : World} {base : Nat} {v : Value} {xs : List UInt8} (h : OwnB w base v xs) (hne : xs ≠ []) :
    (convert 101 9 v).run Try.prog w = .ok (.string ⟨xs.toArray⟩) w := by
  rcases h.form with ⟨_, h0⟩ | ⟨g, cap, rfl, _, hc, hm⟩
  · exact absurd h0 hne
  · refine run_convert_bytes_back w 101 9 5 ⟨g, 0, none⟩ cap xs Try.underlying101 Try.underlying5 Try.underlying9 (fun j hj => ?_)
    have := World.ownsRow.cellAt h j (by omega)
    have e : (⟨g, 0, none⟩ : Addr).add j = ⟨g, j, none⟩ := by unfold Addr.add; split <;> simp_all
    rw [e, this]
    simp [hj, bv]

theorem OwnB.set {w : World} {base g cap n : Nat} {xs : List UInt8} (h : OwnB w base (.slice (some ⟨g, 0, none⟩) n cap) xs) (hn : xs.length = n) (j : Nat) (d : UInt8) :
    OwnB (w.setCell ⟨g, j, none⟩ (.int .u8 (d.toNat : Int))) base (.slice (some ⟨g, 0, none⟩) n cap) (xs.set j d) ∧ w.grownBy (w.setCell ⟨g, j, none⟩ (.int .u8 (d.toNat : Int))) (some g) := by
  subst hn
  have := World.ownsRow.stored h j (bv d)
  refine ⟨?_, this.2⟩
  unfold OwnB
  rw [List.length_set, List.map_set]
  exact this.1

/-- A slice of digits outside a row of the call's own. -/
def RdOff (w : World) (A : Option Addr) (c : Nat) (xs : List Nat) (v : Value) : Prop := Rd w A c xs ∧ (xs ≠ [] → ∀ a g, A = some a → v.ownBlock = some g → a.block ≠ g)
theorem RdOff.app {w w' : World} {A : Option Addr} {c : Nat} {xs : List Nat} {v v' : Value} (h : RdOff w A c xs v) (hg : w.grownBy w' v.ownBlock) (hat : v'.ownBlock = v.ownBlock ∨ ∃ g, v'.ownBlock = some g ∧ w.heap.size ≤ g) : RdOff w' A c xs v' := by
  obtain ⟨h1, h2⟩ := h
  refine ⟨⟨h1.room, h1.cap, h1.ok, fun hn => ?_⟩, fun hn a g ha hv => ?_⟩
  · obtain ⟨b, o, hA, hlt, hc⟩ := h1.at_ hn
    exact ⟨b, o, hA, Nat.lt_of_lt_of_le hlt hg.size, fun j hj => hg.cell (hc j hj) (fun e => h2 hn _ _ hA e.symm rfl)⟩
  · rcases hat with e | ⟨g', e, hge⟩
    · exact h2 hn a g ha (e ▸ hv)
    · obtain ⟨b, o, hA, hlt, hc⟩ := h1.at_ hn
      rw [hA] at ha
      have ha' : a = ⟨b, o, none⟩ := (Option.some.inj ha).symm
      rw [e] at hv
      have hg' : g' = g := Option.some.inj hv
      subst ha'
      show b ≠ g
      omega
theorem RdOff.fresh {w w1 : World} {base : Nat} {A : Option Addr} {c : Nat} {xs : List Nat} {v : Value} {bs : List UInt8} (h : Rd w1 A c xs) (hf : ∀ a, A = some a → w.heap.size ≤ a.block) (ho : OwnB w base v bs) : RdOff w1 A c xs v :=
  ⟨h, fun _ a g ha hv => by have := (World.ownsRow.lt ho g hv).2; have := hf a ha; omega⟩
theorem RdOff.old {w : World} {A : Option Addr} {c : Nat} {xs : List Nat} (h : Rd w A c xs) : RdOff w A c xs (.slice none 0 0) := ⟨h, fun _ a g _ hv => by cases hv⟩

set_option maxRecDepth 100000 in
set_option maxHeartbeats 1000000 in
theorem reverse_any (base g cap : Nat) (bs : List UInt8) (w : World) (h : OwnB w base (.slice (some ⟨g, 0, none⟩) bs.length cap) bs) (hs : bs.length ≤ 100000000) :
   Calls Try.prog 66 #[.slice (some ⟨g, 0, none⟩) bs.length cap] w fun e w' => (e = .returned (.tuple #[]) ∧ OwnB w' base (.slice (some ⟨g, 0, none⟩) bs.length cap) bs.reverse) ∧ w.grownBy w' (some g) := by
  go_enter Try.func66, Try.ntmps66
  go_wp2
  go_loopw [2, 3] (fun iv jv wr => ∃ (i : Nat) (cs : List UInt8), i ≤ bs.length ∧ iv = .int .i64 i ∧ jv = .int .i64 ((bs.length : Int) - 1 - i) ∧ RevTo bs i cs ∧ OwnB wr base (.slice (some ⟨g, 0, none⟩) bs.length cap) cs ∧ w.grownBy wr (some g)) (fun iv _ _ => bs.length - (intOf iv).toNat)
  case atStart => exact ⟨0, bs, by omega, rfl, by go_num, RevTo.zero bs, h, ⟨rfl, rfl, rfl, Nat.le_refl _, fun _ _ _ => rfl⟩⟩
  case round =>
    obtain ⟨i, cs, hi, rfl, rfl, hrt, hown, hg⟩ := hrel
    clear h
    have hcl := hrt.1
    by_cases hlt : i + 1 + i < bs.length
    · have hown' : wr.ownsRow base 5 1 (.slice (some ⟨g, 0, none⟩) bs.length cap) bs.length (cs.map bv) := by
        have := hown
        unfold OwnB at this
        rwa [hcl] at this
      have hi1 : i < cs.length := by omega
      have hi2 : bs.length - 1 - i < cs.length := by omega
      have g1 : wr.cell? ⟨g, i, none⟩ = some (.int .u8 (cs[i].toNat : Int)) := by rw [World.ownsRow.cellAt hown' i (by omega)]; simp [hi1, bv]
      have g2 : wr.cell? ⟨g, bs.length - 1 - i, none⟩ = some (.int .u8 (cs[bs.length - 1 - i].toNat : Int)) := by rw [World.ownsRow.cellAt hown' _ (by omega)]; simp [hi2, bv]
      have f1 := World.ownsRow.frozenAt hown' i
      have f2 := World.ownsRow.frozenAt hown' (bs.length - 1 - i)
      have HN := Lib.hid (hrt.step hlt hi1 hi2)
      have HCL := Lib.hid hcl
      have hne : ¬ i = bs.length - 1 - i := by omega
      clear hrt hcl
      go_wp2
      go_region
      go_wp2
      have o1 := hown.set HCL.out i cs[bs.length - 1 - i]
      have o2 := o1.1.set (by rw [List.length_set]; exact HCL.out) (bs.length - 1 - i) cs[i]
      have hg2 : w.grownBy _ (some g) := ⟨o2.2.os.trans (o1.2.os.trans hg.os), o2.2.tape.trans (o1.2.tape.trans hg.tape), o2.2.output.trans (o1.2.output.trans hg.output), Nat.le_trans hg.size (Nat.le_trans o1.2.size o2.2.size),
        fun k hk hne => (o2.2.block k (Nat.lt_of_lt_of_le hk (Nat.le_trans hg.size o1.2.size)) hne).trans ((o1.2.block k (Nat.lt_of_lt_of_le hk hg.size) hne).trans (hg.block k hk hne))⟩
      refine ⟨⟨i + 1, _, by omega, by go_num, by go_num, HN.out, o2.1, ⟨hg2.os, hg2.tape, hg2.output, hg2.size, hg2.block⟩⟩, by simp [intOf]; omega⟩
    · have hd := hrt.done (by omega)
      have HD := Lib.hid hd
      clear hd hrt hcl
      go_wp2
      go_end0
      rw [← HD.out]
      exact ⟨⟨rfl, hown⟩, hg⟩

end Go.Proofs.Ytlmgdhdakeekkaa

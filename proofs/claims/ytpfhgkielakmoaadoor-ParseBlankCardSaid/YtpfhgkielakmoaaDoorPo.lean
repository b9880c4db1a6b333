/-
  Contract of parse.Text.
-/
import Derived.Test.YtpfhgkielakmoaaDoorPm
import Derived.Test.YtpfhgkielakmoaaDoorTo
set_option linter.unusedSimpArgs false
set_option linter.unusedVariables false
namespace Go.Proofs.YtpfhgkielakmoaaDoor
open Go.RowKit Num

/-- The items of a text are told. -/
def RetIt (w w' : World) (e : Ending) (r : List It × Int × Int) : Prop :=
  ∃ A c, e = .returned (.tuple #[.slice A r.1.length c, .int .i64 r.2.1, .int .i64 r.2.2]) ∧ LI.row.P (since w.heap.size w') w' (.slice A r.1.length c) r.1 ∧ Below w.heap.size w w'
theorem below_gr1 {w w1 w2 : World} {g : Nat} (h : Below w.heap.size w w1) (q : w1.grownBy w2 (some g)) (hg : w.heap.size ≤ g) : Below w.heap.size w w2 := grown_below h q hg
theorem textP_ok2 {s : List UInt8} {l : List Tok} {p : Nat} (h : splitR s = (l, p, 0)) : textP s = allR s.length l := by
  unfold textP allR
  rw [h]
  simp
  cases allGo 512 [] l <;> rfl
theorem textP_no {s : List UInt8} {l : List Tok} {p : Nat} {e : Int} (h : splitR s = (l, p, e)) (he : e ≠ 0) : textP s = ([], (p : Int), e) := by
  unfold textP
  rw [h]
  simp [he]
set_option maxRecDepth 100000 in
set_option maxHeartbeats 4000000 in
theorem ptext_any (s : ByteArray) (w : World) (hE : ErrVars w) (hs : s.size ≤ 1000000) : Calls Tryd.prog 8 #[.string s] w fun e w' => RetIt w w' e (textP s.data.toList) := by
  have hsz : s.data.toList.length = s.size := by simp
  go_enter Tryd.func8, Tryd.ntmps8
  go_wp2_with fail
  refine (split_any s w hE).mono ?_
  rintro e w1 h1
  obtain ⟨⟨v1, rfl, ho1⟩, q1⟩ := h1
  have hlt := World.ownsRow.lt ho1
  obtain ⟨A, c, rfl, hA⟩ := ho1.rd
  clear ho1
  generalize hr : splitR s.data.toList = r at *
  obtain ⟨l, p, er⟩ := r
  dsimp only at *
  by_cases he : er = 0
  · subst he
    have ht := textP_ok2 hr
    rw [hsz] at ht
    have HT := Lib.hid ht
    have h2 : Ps (w1.alloc (.cells #[.slice A l.length c, .int .i64 s.size] 45)) w1.heap.size l s.size :=
      ⟨A, c, Blk.new .., hA.below (below_alloc1 _ _) (Nat.le_refl _), fun b o z hAe => by
        subst hAe
        exact (hlt b rfl).2⟩
    clear hlt
    clear hr ht
    go_wp2_with fail
    refine (all_any h2).mono ?_
    rintro e w3 ⟨q3, v, rfl, A3, c3, rfl, hv⟩
    go_wp2_with fail
    generalize allR s.size l = R at *
    obtain ⟨xs, at_, er⟩ := R
    dsimp only at *
    have hv2 := Dt.below _ hv (below_alloc1 w3 (.cells #[.int .i64 at_, .int .i64 er] 47)) (Nat.le_refl _)
    have q9 := below_trans (grown_below (below_trans q1 (below_alloc1 w1 (.cells #[.slice A l.length c, .int .i64 s.size] 45))) q3 q1.size) (below_alloc1 w3 (.cells #[.int .i64 at_, .int .i64 er] 47))
    have hB : ∀ b, since (w1.alloc (.cells #[.slice A l.length c, .int .i64 s.size] 45)).heap.size w3 b → since w.heap.size (w3.alloc (.cells #[.int .i64 at_, .int .i64 er] 47)).drew b := fun b hb => by
      have h1 := hb.1
      have h2 := hb.2
      have h3 := q1.size
      simp at h1
      exact ⟨by omega, by show b < (w3.alloc _).heap.size; simp; omega⟩
    have hv3 := (LI.row).mono hB (Dt.below _ hv2 ((Read.refl _).drew.below _) (Nat.le_refl _))
    have q10 := q9.trans ((Read.refl _).drew.below _)
    have HV := Lib.hid hv3
    clear hv hv2 hv3 hB q3 q9 h2
    go_region
    go_wp2_with fail
    refine bodyPost_ret (v := .tuple #[.slice A3 xs.length c3, .int .i64 at_, .int .i64 er]) (by simp [results, Tryd.results8, go_sem]) rfl ?_
    rw [HT.out]
    exact ⟨A3, c3, rfl, HV.out, q10⟩
  · have ht := textP_no hr he
    have d1 : (er != 0) = true := by simpa using he
    have HT := Lib.hid ht
    clear hr ht he hlt
    go_wp2_with fail
    refine bodyPost_ret (v := .tuple #[.slice none 0 0, .int .i64 p, .int .i64 er]) (by simp [results, Tryd.results8, go_sem]) rfl ?_
    rw [HT.out]
    exact ⟨none, 0, rfl, Lay.row_nil (Nat.zero_le _), q1⟩
end Go.Proofs.YtpfhgkielakmoaaDoor

/-
  Joined texts: Tm, To, Po, Vj.
-/
import Derived.Test.YtpfhgkielakmoaaGreatDoorTl
import Derived.Test.YtpfhgkielakmoaaGreatDoorPa
import Derived.KernelRfl
import Derived.Test.YtpfhgkielakmoaaGreatDoorPm
import Derived.Test.YtpfhgkielakmoaaGreatDoorVi
import Derived.Test.YtpfhgkielakmoaaGreatDoorShelf
import Derived.Lib.SmallJoins
import Derived.Lib.LaidTab
import Derived.Lib.AppendIntMem
/-
  The document's Same.
-/
set_option linter.unusedSimpArgs false
set_option linter.unusedVariables false
namespace Go.Proofs.YtpfhgkielakmoaaGreatDoor
open Go.RowKit Num

end Go.Proofs.YtpfhgkielakmoaaGreatDoor
/-
  The laws of tokens: alive; LexSplits, LexJoins.
-/
set_option linter.unusedSimpArgs false
set_option linter.unusedVariables false
namespace Go.Proofs.YtpfhgkielakmoaaGreatDoor
open Go.RowKit Num

theorem RdT.take {w : World} {A : Option Addr} {c : Nat} {l : List Tok} (h : RdT w A c l) (n : Nat) : RdT w A c (l.take n) := by
  refine ⟨Nat.le_trans (List.length_take_le' n l) h.room, h.cap, fun hn => ?_⟩
  obtain ⟨b, o, hA, hlt, hc⟩ := h.at_ (by rintro rfl; simp at hn)
  refine ⟨b, o, hA, hlt, fun j hj => ?_⟩
  have hj2 : j < l.length := by rw [List.length_take] at hj; omega
  rw [show (l.take n)[j] = l[j] from List.getElem_take]
  exact hc j hj2
theorem RetTok.rd {ty : TypeId} {w w' : World} {e : Ending} {r : List Tok × Nat × Int} (h : RetTok ty w w' e r) :
    ∃ A c, e = .returned (.tuple #[.slice A r.1.length c, .int .i64 (r.2.1 : Nat), .int .i64 r.2.2]) ∧ RdT w' A c r.1 ∧ Below w.heap.size w w' := by
  obtain ⟨⟨v, he, ho⟩, hb⟩ := h
  obtain ⟨A, c, rfl, hr⟩ := ho.rd
  exact ⟨A, c, he, hr, hb⟩
end Go.Proofs.YtpfhgkielakmoaaGreatDoor
/-
  Contract of parse.Text.
-/
set_option linter.unusedSimpArgs false
set_option linter.unusedVariables false
namespace Go.Proofs.YtpfhgkielakmoaaGreatDoor
open Go.RowKit Num

/-- The items of a text are told. -/
def RetIt (w w' : World) (e : Ending) (r : List It × Int × Int) : Prop :=
  ∃ A c, e = .returned (.tuple #[.slice A r.1.length c, .int .i64 r.2.1, .int .i64 r.2.2]) ∧ LI.row.P (since w.heap.size w') w' (.slice A r.1.length c) r.1 ∧ Below w.heap.size w w'
theorem textP_ok2 {s : List UInt8} {l : List Tok} {p : Nat} (h : splitR s = (l, p, 0)) : textP s = allR s.length l := by
  unfold textP allR
  rw [h]
  simp
  cases allGo 512 [] l <;> rfl
theorem textP_no {s : List UInt8} {l : List Tok} {p : Nat} {e : Int} (h : splitR s = (l, p, e)) (he : e ≠ 0) : textP s = ([], (p : Int), e) := by
  unfold textP
  rw [h]
  simp [he]
set_option maxRecDepth 100000 in
set_option maxHeartbeats 4000000 in
theorem ptext_any (s : ByteArray) (w : World) (hE : ErrVars w) (hs : s.size ≤ 1000000) : Calls Tryz.prog 12 #[.string s] w fun e w' => RetIt w w' e (textP s.data.toList) := by
  have hsz : s.data.toList.length = s.size := by simp
  go_enter Tryz.func12, Tryz.ntmps12
  go_wp2_with fail
  refine (split_any s w hE).mono ?_
  rintro e w1 h1
  obtain ⟨⟨v1, rfl, ho1⟩, q1⟩ := h1
  have hlt := World.ownsRow.lt ho1
  obtain ⟨A, c, rfl, hA⟩ := ho1.rd
  clear ho1
  generalize hr : splitR s.data.toList = r at *
  obtain ⟨l, p, er⟩ := r
  dsimp only at *
  by_cases he : er = 0
  · subst he
    have ht := textP_ok2 hr
    rw [hsz] at ht
    have HT := Lib.hid ht
    have h2 : Ps (w1.alloc (.cells #[.slice A l.length c, .int .i64 s.size] 71)) w1.heap.size l s.size :=
      ⟨A, c, Blk.new .., hA.below (below_alloc1 _ _) (Nat.le_refl _), fun b o z hAe => by
        subst hAe
        exact (hlt b rfl).2⟩
    clear hlt
    clear hr ht
    go_wp2_with fail
    refine (all_any h2).mono ?_
    rintro e w3 ⟨q3, v, rfl, A3, c3, rfl, hv⟩
    go_wp2_with fail
    generalize allR s.size l = R at *
    obtain ⟨xs, at_, er⟩ := R
    dsimp only at *
    have hv2 := Dt.below _ hv (below_alloc1 w3 (.cells #[.int .i64 at_, .int .i64 er] 73)) (Nat.le_refl _)
    have q9 := below_trans (grown_below (below_trans q1 (below_alloc1 w1 (.cells #[.slice A l.length c, .int .i64 s.size] 71))) q3 q1.size) (below_alloc1 w3 (.cells #[.int .i64 at_, .int .i64 er] 73))
    have hB : ∀ b, since (w1.alloc (.cells #[.slice A l.length c, .int .i64 s.size] 71)).heap.size w3 b → since w.heap.size (w3.alloc (.cells #[.int .i64 at_, .int .i64 er] 73)).drew b := fun b hb => by
      have h1 := hb.1
      have h2 := hb.2
      have h3 := q1.size
      simp at h1
      exact ⟨by omega, by show b < (w3.alloc _).heap.size; simp; omega⟩
    have hv3 := (LI.row).mono hB (Dt.below _ hv2 ((Read.refl _).drew.below _) (Nat.le_refl _))
    have q10 := q9.trans ((Read.refl _).drew.below _)
    have HV := Lib.hid hv3
    clear hv hv2 hv3 hB q3 q9 h2
    go_region
    go_wp2_with fail
    refine bodyPost_ret (v := .tuple #[.slice A3 xs.length c3, .int .i64 at_, .int .i64 er]) (by simp [results, Tryz.results12, go_sem]) rfl ?_
    rw [HT.out]
    exact ⟨A3, c3, rfl, HV.out, q10⟩
  · have ht := textP_no hr he
    have d1 : (er != 0) = true := by simpa using he
    have HT := Lib.hid ht
    clear hr ht he hlt
    go_wp2_with fail
    refine bodyPost_ret (v := .tuple #[.slice none 0 0, .int .i64 p, .int .i64 er]) (by simp [results, Tryz.results12, go_sem]) rfl ?_
    rw [HT.out]
    exact ⟨none, 0, rfl, Lay.row_nil (Nat.zero_le _), q1⟩
end Go.Proofs.YtpfhgkielakmoaaGreatDoor
/-
  show's small functions: contracts of num, fits, truth, name.
-/
set_option linter.unusedSimpArgs false
set_option linter.unusedVariables false
namespace Go.Proofs.YtpfhgkielakmoaaGreatDoor
open Go.RowKit Num Go.Joins

/-- What the library's variables hold: the two errors, and the powers of ten. -/
structure Env (w : World) : Prop where
  err : ErrVars w
  tab : Lib.TabIs Tryz.prog w "internal/strconv.uint64pow10" .u64 Lib.pow10Tab
theorem Env.below {w w' : World} (h : Env w) (q : Below w.heap.size w w') : Env w' :=
  ⟨h.err.below q, var_stays (by kernel_rfl : Tryz.prog.globalNamed "internal/strconv.uint64pow10" = some 3) h.tab q (Nat.le_refl _)⟩
set_option maxRecDepth 100000 in
theorem vnum_any (n : Int) (hn : I64 n) (w : World) (hE : Env w) : Calls Tryz.prog 91 #[.int .i64 n] w fun e w' => e = .returned (.string ⟨(Lib.itoa n).toArray⟩) ∧ Below w.heap.size w w' := by
  go_enter Tryz.func91, Tryz.ntmps91
  go_wp2_with fail
  refine (Tryz.strconv_FormatInt_10 n hn.1 hn.2 w hE.tab).mono ?_
  rintro e w1 ⟨rfl, k, os, rfl⟩
  have q := Lib.below_grow w.heap.size w (Nat.le_refl _) k os
  go_wp2_with fail
  go_ret
  exact ⟨rfl, q⟩
set_option maxRecDepth 100000 in
theorem vfits_any (s : ByteArray) (w : World) (hE : Env w) : Calls Tryz.prog 19 #[.string s] w fun e w' => e = .returned (.bool (fitsS s.data.toList)) ∧ Below w.heap.size w w' := by
  go_enter Tryz.func19, Tryz.ntmps19
  go_wp2_with fail
  refine (split_any s w hE.err).mono ?_
  rintro e w1 h1
  obtain ⟨A, c, rfl, hA, q1⟩ := h1.rd
  clear h1
  have hf : fitsS s.data.toList = ((splitR s.data.toList).2.2 == 0) := rfl
  generalize splitR s.data.toList = R at *
  obtain ⟨l, p, er⟩ := R
  dsimp only at *
  have HF := Lib.hid hf
  clear hf
  go_wp2_with fail
  go_ret
  exact ⟨by rw [HF.out]; rfl, q1⟩
set_option maxRecDepth 100000 in
theorem vtruth_any (b : Bool) (w : World) : Calls Tryz.prog 87 #[.bool b] w fun e w' => e = .returned (.string ⟨(truthS b).toArray⟩) ∧ Below w.heap.size w w' := by
  cases b with
  | true =>
    go_enter Tryz.func87, Tryz.ntmps87
    go_wp2_with fail
    go_ret
    exact ⟨rfl, Below.refl _ _⟩
  | false =>
    go_enter Tryz.func87, Tryz.ntmps87
    go_wp2_with fail
    go_ret
    exact ⟨rfl, Below.refl _ _⟩
end Go.Proofs.YtpfhgkielakmoaaGreatDoor

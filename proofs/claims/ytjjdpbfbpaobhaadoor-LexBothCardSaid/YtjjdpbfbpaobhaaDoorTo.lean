/-
  The laws of tokens: alive; LexSplits, LexJoins.
-/
import Derived.Test.YtjjdpbfbpaobhaaDoorTm
import Derived.Test.YtjjdpbfbpaobhaaDoorTn
import Derived.KernelRfl
set_option linter.unusedSimpArgs false
set_option linter.unusedVariables false
namespace Go.Proofs.YtjjdpbfbpaobhaaDoor
open Go.RowKit Num

theorem RdT.take {w : World} {A : Option Addr} {c : Nat} {l : List Tok} (h : RdT w A c l) (n : Nat) : RdT w A c (l.take n) := by
  refine ⟨Nat.le_trans (List.length_take_le' n l) h.room, h.cap, fun hn => ?_⟩
  obtain ⟨b, o, hA, hlt, hc⟩ := h.at_ (by rintro rfl; simp at hn)
  refine ⟨b, o, hA, hlt, fun j hj => ?_⟩
  have hj2 : j < l.length := by rw [List.length_take] at hj; omega
  rw [show (l.take n)[j] = l[j] from List.getElem_take]
  exact hc j hj2
theorem RetTok.rd {ty : TypeId} {w w' : World} {e : Ending} {r : List Tok × Nat × Int} (h : RetTok ty w w' e r) :
    ∃ A c, e = .returned (.tuple #[.slice A r.1.length c, .int .i64 (r.2.1 : Nat), .int .i64 r.2.2]) ∧ RdT w' A c r.1 ∧ Below w.heap.size w w' := by
  obtain ⟨⟨v, he, ho⟩, hb⟩ := h
  obtain ⟨A, c, rfl, hr⟩ := ho.rd
  exact ⟨A, c, he, hr, hb⟩
theorem splitB_len (n : Nat) : ∀ (k : Nat) (l : List UInt8) (acc : List Tok), l.length ≤ k → (splitB n l acc).1.length ≤ acc.length + l.length := by
  intro k
  induction k with
  | zero =>
    intro l acc hl
    obtain rfl : l = [] := List.length_eq_zero_iff.1 (by omega)
    rw [splitB_nil]
    exact Nat.le_add_right _ _
  | succ k ih =>
    intro l acc hl
    by_cases h0 : l = []
    · subst h0
      rw [splitB_nil]
      exact Nat.le_add_right _ _
    · by_cases ha : acc.length = 4096
      · rw [splitB, if_neg h0, if_pos ha]
        exact Nat.zero_le _
      · rw [splitB_cons h0 ha]
        by_cases hw : (wordL l).1 = 0
        · rw [if_pos hw]
          exact Nat.zero_le _
        · rw [if_neg hw]
          have h1 := wordL_pos hw
          have h2 := blankL_le (l.drop (wordL l).2)
          rw [List.length_drop] at h2
          split
          · refine Nat.le_trans (ih _ _ (by omega)) ?_
            rw [List.length_append, List.length_singleton]
            omega
          · exact Nat.zero_le _
theorem splitR_len (l : List UInt8) : (splitR l).1.length ≤ 8192 := by
  unfold splitR
  split
  · exact Nat.zero_le _
  · have h1 := splitB_len l.length _ (blankL l) [] (Nat.le_refl _)
    have h2 := blankL_le l
    simp at h1
    omega
def aA : ByteArray := ⟨#[118, 97, 114, 32, 49, 46, 46, 53, 58, 32, 120, 59, 32, 37, 32, 97]⟩
def aB : ByteArray := ⟨#[120, 32, 45, 32, 49]⟩
def tokA : List Tok := [⟨1, [118, 97, 114], 0, 0⟩, ⟨2, [49], 1, 4⟩, ⟨3, [46, 46], 0, 5⟩, ⟨2, [53], 5, 7⟩, ⟨3, [58], 0, 8⟩, ⟨1, [120], 0, 10⟩, ⟨3, [59], 0, 11⟩]
theorem split_aA : splitR aA.data.toList = (tokA, 0, 0) := by kernel_rfl
theorem split_aB : splitR aB.data.toList = ([], 2, 5) := by kernel_rfl
theorem splitA (w : World) (hE : ErrVars w) : Calls Tryd.prog 8 #[.string aA] w fun e w' => ∃ A c, e = .returned (.tuple #[.slice A 7 c, .int .i64 0, .int .i64 0]) ∧ RdT w' A c tokA ∧ Below w.heap.size w w' :=
  (split_any aA w hE).mono fun e w' h => by
    rw [split_aA] at h
    exact h.rd
theorem splitB' (w : World) (hE : ErrVars w) : Calls Tryd.prog 8 #[.string aB] w fun e w' => ∃ A c, e = .returned (.tuple #[.slice A 0 c, .int .i64 2, .int .i64 5]) ∧ Below w.heap.size w w' :=
  (split_any aB w hE).mono fun e w' h => by
    rw [split_aB] at h
    obtain ⟨A, c, h1, _, h2⟩ := h.rd
    exact ⟨A, c, h1, h2⟩
set_option maxRecDepth 100000 in
set_option maxHeartbeats 4000000 in
theorem alive_any (w : World) (hE : ErrVars w) : Calls Tryd.prog 7 #[] w fun e w' => e = .returned (.bool true) ∧ Below w.heap.size w w' := by
  go_enter Tryd.func7, Tryd.ntmps7
  go_wp2_with fail
  refine (splitA w hE).mono ?_
  rintro e w1 ⟨A, c, rfl, hA, q1⟩
  have hE1 := hE.below q1
  go_wp2_with fail
  refine (splitB' w1 hE1).mono ?_
  rintro e w2 ⟨B, d, rfl, q2⟩
  have hA2 := hA.below q2 (Nat.le_refl _)
  have q := below_trans q1 q2
  have hr : 7 ≤ c := hA2.room
  have hc7 : c ≤ maxLen := hA2.cap
  unfold maxLen at hc7
  obtain ⟨b, o, hAe, hlt, hc⟩ := hA2.at_ (by simp [tokA])
  have c1 : w2.cell? ⟨b, o + 8 + 1, none⟩ = some (.string ⟨#[46, 46]⟩) := (hc 2 (by decide)).2.1
  have c2 : w2.cell? ⟨b, o + 12 + 2, none⟩ = some (.int .i64 5) := (hc 3 (by decide)).2.2.1
  have c3 : w2.cell? ⟨b, o + 20 + 3, none⟩ = some (.int .i64 10) := (hc 5 (by decide)).2.2.2
  subst hAe
  clear hc hA q1 q2 hE hE1
  go_wp2_with (refine (ljoin_any (some ⟨b, o, none⟩) c (tokA.take 2) w2 (hA2.take 2) (by decide) (by decide)).mono ?_; rintro e w3 ⟨rfl, q3⟩)
  go_ret
  exact ⟨rfl, below_trans q q3⟩
set_option maxRecDepth 100000 in
set_option maxHeartbeats 4000000 in
theorem lexSplits_use (w : World) (hE : ErrVars w) (s : ByteArray) (hs : s.size ≤ maxLen) : Calls Tryd.prog 3 #[.string s] w fun e w' => e = .returned (.bool true) ∧ Below w.heap.size w w' := by
  unfold maxLen at hs
  by_cases h9 : s.size ≤ 9000
  · have d1 : decide ((9000 : Int) < (s.size : Int)) = false := decide_eq_false (by omega)
    go_enter Tryd.func3, Tryd.ntmps3
    go_wp2_with fail
    refine (alive_any w hE).mono ?_
    rintro e w1 ⟨rfl, q1⟩
    have hE1 := hE.below q1
    clear hE
    go_wp2_with fail
    refine (split_any s w1 hE1).mono ?_
    rintro e w2 h2
    obtain ⟨A, c, rfl, hA, q2⟩ := h2.rd
    clear h2
    go_wp2_with fail
    refine (rsplit_any s w2).mono ?_
    rintro e w3 h3
    obtain ⟨B, d, rfl, hB, q3⟩ := h3.rd
    clear h3
    have hn := splitR_len s.data.toList
    have hA3 := hA.below q3 (Nat.le_refl _)
    clear hA
    generalize splitR s.data.toList = r at *
    obtain ⟨l, p, er⟩ := r
    dsimp only at *
    go_wp2_with fail
    refine (ours_any A c l w3 hA3 (by omega)).mono ?_
    rintro e w4 ⟨⟨v, rfl, ho⟩, q4⟩
    obtain ⟨C, k, rfl, hC⟩ := ho.rd
    clear ho
    go_wp2_with fail
    refine (rsame_any C B k d l l true w4 hC (hB.below q4 (Nat.le_refl _)) (by omega) rfl (fun j h1 h2 => ⟨rfl, rfl, rfl, fun _ => rfl⟩)).mono ?_
    rintro e w5 ⟨rfl, q5⟩
    go_wp2_with fail
    go_ret
    exact ⟨rfl, below_trans (below_trans (below_trans (below_trans q1 q2) q3) q4) q5⟩
  · have d1 : decide ((9000 : Int) < (s.size : Int)) = true := decide_eq_true (by omega)
    go_enter Tryd.func3, Tryd.ntmps3
    go_wp2_with fail
    refine (alive_any w hE).mono ?_
    rintro e w1 ⟨rfl, q1⟩
    go_wp2_with fail
    go_ret
    exact ⟨rfl, q1⟩
set_option maxRecDepth 100000 in
set_option maxHeartbeats 4000000 in
theorem lexJoins_use (w : World) (hE : ErrVars w) (A : Option Addr) (c : Nat) (l : List Tok) (h : RdT w A c l) : Calls Tryd.prog 4 #[.slice A l.length c] w fun e w' => e = .returned (.bool true) ∧ Below w.heap.size w w' := by
  have hcap := h.cap
  have hroom := h.room
  unfold maxLen at hcap
  go_enter Tryd.func4, Tryd.ntmps4
  go_wp2_with fail
  refine (alive_any w hE).mono ?_
  rintro e w1 ⟨rfl, q1⟩
  have h1 := h.below q1 (Nat.le_refl _)
  clear h hE
  go_wp2_with fail
  go_loopg [8] l.length (fun k a wr => ∃ j, k = l.length - j ∧ j ≤ l.length ∧ a = .int .i64 (j : Nat) ∧ Hid (j ≤ 200 ∧ ∀ t ∈ l.take j, t.t.length ≤ 200) ∧ Read w1 wr)
  case atStart => exact ⟨0, rfl, Nat.zero_le _, rfl, ⟨by decide, by simp⟩, (by first | exact Read.refl _ | exact ⟨_, rfl⟩ | exact Read.drewN ⟨_, rfl⟩ _ | exact Read.drewN (Read.drewN ⟨_, rfl⟩ _) _ | exact Read.drewN (Read.refl _) _)⟩
  case round =>
    obtain ⟨j, hk, hj, rfl, hH, hq⟩ := hrel
    have hw := h1.below (hq.below w1.heap.size) (Nat.le_refl _)
    by_cases hlt : j < l.length
    · have d1 : decide ((j : Int) < (l.length : Int)) = true := decide_eq_true (by omega)
      obtain ⟨b, o, hA, hb, hc⟩ := hw.at_ (by intro e; rw [e] at hlt; cases hlt)
      obtain ⟨c1, c2, c3, c4⟩ := hc j hlt
      clear hw hc c1 c3 c4
      subst hA
      have hT : (⟨l[j].t.toArray⟩ : ByteArray).size = l[j].t.length := rfl
      generalize (⟨l[j].t.toArray⟩ : ByteArray) = t at *
      by_cases h200 : j < 200
      · have d2 : decide ((200 : Int) ≤ (j : Int)) = false := decide_eq_false (by omega)
        by_cases hbig : t.size ≤ 200
        · have d3 : decide ((200 : Int) < (t.size : Int)) = false := decide_eq_false (by omega)
          have HT := Lib.hid hT
          clear hT
          go_wp2_with fail
          go_roundg (l.length - (j + 1))
          case measure => omega
          case rel =>
            refine ⟨j + 1, rfl, by omega, by simp, ⟨by omega, fun x hx => ?_⟩, hq.trans (by first | exact Read.refl _ | exact ⟨_, rfl⟩ | exact Read.drewN ⟨_, rfl⟩ _ | exact Read.drewN (Read.drewN ⟨_, rfl⟩ _) _ | exact Read.drewN (Read.refl _) _)⟩
            rw [List.take_succ_eq_append_getElem hlt, List.mem_append, List.mem_singleton] at hx
            rcases hx with hx | rfl
            · exact hH.out.2 x hx
            · rw [← HT.out]
              exact hbig
        · have d3 : decide ((200 : Int) < (t.size : Int)) = true := decide_eq_true (by omega)
          clear hT
          go_wp2_with fail
          go_ret
          exact ⟨rfl, below_trans q1 (hq.below _)⟩
      · have d2 : decide ((200 : Int) ≤ (j : Int)) = true := decide_eq_true (by omega)
        clear hT
        go_wp2_with fail
        go_ret
        exact ⟨rfl, below_trans q1 (hq.below _)⟩
    · have d1 : decide ((j : Int) < (l.length : Int)) = false := decide_eq_false (by omega)
      obtain ⟨hj2, hall⟩ := hH.out
      rw [List.take_of_length_le (by omega)] at hall
      have HL := Lib.hid hall
      clear hall hH
      go_wp2_with fail
      refine (theirs_any A c l wr hw (by omega)).mono ?_
      rintro e w4 ⟨⟨v, rfl, ho⟩, q4⟩
      obtain ⟨C, k, rfl, hC⟩ := ho.rd
      clear ho
      go_wp2_with fail
      refine (ljoin_any C k l w4 hC (by omega) HL.out).mono ?_
      rintro e w5 ⟨rfl, q5⟩
      have hR := rjoin_any A c l w5 ((hw.below q4 (Nat.le_refl _)).below q5 (Nat.le_refl _)) (by omega) HL.out
      generalize (⟨(joinR (l.map (·.t))).toArray⟩ : ByteArray) = J at *
      go_wp2_with fail
      refine hR.mono ?_
      rintro e w6 ⟨rfl, q6⟩
      clear hR
      go_wp2_with fail
      go_ret
      exact ⟨rfl, below_trans (below_trans (below_trans (below_trans q1 (hq.below _)) q4) q5) q6⟩
end Go.Proofs.YtjjdpbfbpaobhaaDoor

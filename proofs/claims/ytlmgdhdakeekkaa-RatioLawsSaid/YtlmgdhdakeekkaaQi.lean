/-
  The law's own helpers: few, alive of touchstonelaw04.
-/
import Derived.Test.YtlmgdhdakeekkaaQg
import Derived.Test.YtlmgdhdakeekkaaQh
set_option linter.unusedSimpArgs false
set_option linter.unusedVariables false
namespace Go.Proofs.Ytlmgdhdakeekkaa
open Go.RowKit Num

structure El4 where
  n : Bool
  A : Option Addr
  xs : List Nat
  c : Nat
  m : Bool
  B : Option Addr
  ys : List Nat
  d : Nat
/-- Block g holds these fractions. -/
def Els4 (w : World) (g : Nat) (L : List El4) : Prop := g < w.heap.size ∧ ∀ i (h : i < L.length), w.cell? ⟨g, i * 4, none⟩ = some (.bool L[i].n) ∧ w.cell? ⟨g, i * 4 + 1, none⟩ = some (.slice L[i].A L[i].xs.length L[i].c) ∧
  w.cell? ⟨g, i * 4 + 2, none⟩ = some (.bool L[i].m) ∧ w.cell? ⟨g, i * 4 + 3, none⟩ = some (.slice L[i].B L[i].ys.length L[i].d)
theorem Els4.below {w w' : World} {g : Nat} {L : List El4} (h : Els4 w g L) (hb : Below w.heap.size w w') : Els4 w' g L :=
  ⟨Nat.lt_of_lt_of_le h.1 hb.size, fun i hi => ⟨(hb.cell (p := ⟨g, i * 4, none⟩) h.1).trans (h.2 i hi).1, (hb.cell (p := ⟨g, i * 4 + 1, none⟩) h.1).trans (h.2 i hi).2.1, (hb.cell (p := ⟨g, i * 4 + 2, none⟩) h.1).trans (h.2 i hi).2.2.1, (hb.cell (p := ⟨g, i * 4 + 3, none⟩) h.1).trans (h.2 i hi).2.2.2⟩⟩
def fewE (e : El4) : Bool := decide (e.xs.length ≤ 8 ∧ e.ys.length ≤ 8)
def few4L (L : List El4) : Bool := L.all fewE
set_option maxRecDepth 100000 in
set_option maxHeartbeats 400000 in
theorem few4_any (g cap : Nat) (L : List El4) (w : World) (hL : L.length ≤ 1000) (h : Els4 w g L) :
    Calls Try.prog 5 #[.slice (some ⟨g, 0, none⟩) L.length cap] w fun e w' => e = .returned (.bool (few4L L)) ∧ Below w.heap.size w w' := by
  have H := Lib.hid h
  clear h
  go_enter Try.func5, Try.ntmps5
  go_wp2_with fail
  go_loopw [7] (fun i wr => ∃ k : Nat, k ≤ L.length ∧ i = .int .i64 k ∧ Hid ((L.take k).all fewE = true) ∧ Below w.heap.size w wr) (fun i _ => L.length - (intOf i).toNat)
  case atStart => exact ⟨0, Nat.zero_le _, rfl, rfl, Below.refl _ _⟩
  case round =>
    obtain ⟨k, hk, rfl, hall, hb⟩ := hrel
    by_cases hlt : k < L.length
    · obtain ⟨c1, c2, c3, c4⟩ := (H.out.below hb).2 k hlt
      generalize hLk : L[k] = e at *
      have HLk := Lib.hid hLk
      clear hLk
      by_cases hf : e.xs.length ≤ 8
      · by_cases hf2 : e.ys.length ≤ 8
        · have HF : Hid (fewE e = true) := decide_eq_true ⟨hf, hf2⟩
          go_wp2
          go_roundw
          case rel => exact ⟨k + 1, by omega, by go_num, all_step hlt hall.out (by rw [HLk.out]; exact HF.out), below_trans hb (below_alloc1 _ _)⟩
          case measure => simp [intOf]; omega
        · have HF : Hid (fewE e = false) := decide_eq_false (fun h => hf2 h.2)
          have d1 : decide ((8 : Int) < (e.xs.length : Int)) = false := decide_eq_false (by omega)
          go_wp2
          go_ret
          rw [show few4L L = false from all_no hlt (by rw [HLk.out]; exact HF.out)]
          exact ⟨rfl, below_trans hb (below_alloc1 _ _)⟩
      · have HF : Hid (fewE e = false) := decide_eq_false (fun h => hf h.1)
        go_wp2
        go_ret
        rw [show few4L L = false from all_no hlt (by rw [HLk.out]; exact HF.out)]
        exact ⟨rfl, below_trans hb (below_alloc1 _ _)⟩
    · have HK : Hid (k = L.length) := by unfold Hid; omega
      go_wp2
      go_ret
      rw [show few4L L = true from all_end HK.out hall.out]
      exact ⟨rfl, hb⟩
theorem few4_1 {w : World} {n m : Bool} {A B : Option Addr} {xs ys : List Nat} {c d g t : Nat} (hg : g = w.heap.size) :
    Calls Try.prog 5 #[.slice (some ⟨g, 0, none⟩) 1 1] (w.alloc (.cells #[.bool n, .slice A xs.length c, .bool m, .slice B ys.length d] t)) fun e w' => e = .returned (.bool (decide (xs.length ≤ 8 ∧ ys.length ≤ 8))) ∧ Below w.heap.size w w' := by
  subst hg
  have hk := Blk.new w t #[.bool n, .slice A xs.length c, .bool m, .slice B ys.length d]
  have he : Els4 (w.alloc (.cells #[.bool n, .slice A xs.length c, .bool m, .slice B ys.length d] t)) w.heap.size [⟨n, A, xs, c, m, B, ys, d⟩] := by
    refine ⟨hk.lt, fun i hi => ?_⟩
    match i, hi with
    | 0, _ => exact hk.four
    | i + 1, hi => exact absurd hi (by simp)
  exact (few4_any _ 1 _ _ (by simp) he).mono fun _ _ ⟨h1, h2⟩ => ⟨by rw [h1]; simp [few4L, fewE], below_trans (below_alloc1 _ _) h2⟩
theorem few4_2 {w : World} {n m n' m' : Bool} {A B A' B' : Option Addr} {xs ys xs' ys' : List Nat} {c d c' d' g t : Nat} (hg : g = w.heap.size) :
    Calls Try.prog 5 #[.slice (some ⟨g, 0, none⟩) 2 2] (w.alloc (.cells #[.bool n, .slice A xs.length c, .bool m, .slice B ys.length d, .bool n', .slice A' xs'.length c', .bool m', .slice B' ys'.length d'] t)) fun e w' => e = .returned (.bool (decide (xs.length ≤ 8 ∧ ys.length ≤ 8 ∧ xs'.length ≤ 8 ∧ ys'.length ≤ 8))) ∧ Below w.heap.size w w' := by
  subst hg
  have hk := Blk.new w t #[.bool n, .slice A xs.length c, .bool m, .slice B ys.length d, .bool n', .slice A' xs'.length c', .bool m', .slice B' ys'.length d']
  have he : Els4 (w.alloc (.cells #[.bool n, .slice A xs.length c, .bool m, .slice B ys.length d, .bool n', .slice A' xs'.length c', .bool m', .slice B' ys'.length d'] t)) w.heap.size [⟨n, A, xs, c, m, B, ys, d⟩, ⟨n', A', xs', c', m', B', ys', d'⟩] := by
    refine ⟨hk.lt, fun i hi => ?_⟩
    match i, hi with
    | 0, _ => exact ⟨(hk.cell 0).trans rfl, (hk.cell 1).trans rfl, (hk.cell 2).trans rfl, (hk.cell 3).trans rfl⟩
    | 1, _ => exact ⟨(hk.cell 4).trans rfl, (hk.cell 5).trans rfl, (hk.cell 6).trans rfl, (hk.cell 7).trans rfl⟩
    | i + 2, hi => exact absurd hi (by simp)
  exact (few4_any _ 2 _ _ (by simp) he).mono fun _ _ ⟨h1, h2⟩ => ⟨by rw [h1]; simp [few4L, fewE, Bool.and_assoc], below_trans (below_alloc1 _ _) h2⟩
theorem few4_3 {w : World} {n m n' m' k l : Bool} {A B A' B' C D : Option Addr} {xs ys xs' ys' us vs : List Nat} {c d c' d' p q g t : Nat} (hg : g = w.heap.size) :
    Calls Try.prog 5 #[.slice (some ⟨g, 0, none⟩) 3 3] (w.alloc (.cells #[.bool n, .slice A xs.length c, .bool m, .slice B ys.length d, .bool n', .slice A' xs'.length c', .bool m', .slice B' ys'.length d', .bool k, .slice C us.length p, .bool l, .slice D vs.length q] t))
      fun e w' => e = .returned (.bool (decide (xs.length ≤ 8 ∧ ys.length ≤ 8 ∧ xs'.length ≤ 8 ∧ ys'.length ≤ 8 ∧ us.length ≤ 8 ∧ vs.length ≤ 8))) ∧ Below w.heap.size w w' := by
  subst hg
  have hk := Blk.new w t #[.bool n, .slice A xs.length c, .bool m, .slice B ys.length d, .bool n', .slice A' xs'.length c', .bool m', .slice B' ys'.length d', .bool k, .slice C us.length p, .bool l, .slice D vs.length q]
  have he : Els4 (w.alloc (.cells #[.bool n, .slice A xs.length c, .bool m, .slice B ys.length d, .bool n', .slice A' xs'.length c', .bool m', .slice B' ys'.length d', .bool k, .slice C us.length p, .bool l, .slice D vs.length q] t)) w.heap.size [⟨n, A, xs, c, m, B, ys, d⟩, ⟨n', A', xs', c', m', B', ys', d'⟩, ⟨k, C, us, p, l, D, vs, q⟩] := by
    refine ⟨hk.lt, fun i hi => ?_⟩
    match i, hi with
    | 0, _ => exact ⟨(hk.cell 0).trans rfl, (hk.cell 1).trans rfl, (hk.cell 2).trans rfl, (hk.cell 3).trans rfl⟩
    | 1, _ => exact ⟨(hk.cell 4).trans rfl, (hk.cell 5).trans rfl, (hk.cell 6).trans rfl, (hk.cell 7).trans rfl⟩
    | 2, _ => exact ⟨(hk.cell 8).trans rfl, (hk.cell 9).trans rfl, (hk.cell 10).trans rfl, (hk.cell 11).trans rfl⟩
    | i + 3, hi => exact absurd hi (by simp)
  exact (few4_any _ 3 _ _ (by simp) he).mono fun _ _ ⟨h1, h2⟩ => ⟨by rw [h1]; simp [few4L, fewE, Bool.and_assoc], below_trans (below_alloc1 _ _) h2⟩

theorem al_make : qmakeR (sN 6) (sD 6) (sN (-4)) (sD (-4)) = (true, [3], false, [2], 0) := by decide +kernel
theorem al_text : qtextR true [3] false [2] = ([45, 51, 47, 50], 0) := by decide +kernel
theorem al_floor : qfloorR true [3] false [2] = (true, [2], 0) := by decide +kernel
theorem al_small : ssmallR true [2] = (-2, 0) := by decide +kernel
theorem al_right : qright true [3] false [2] = true := by decide +kernel
theorem al_right0 : qright (sN 0) (sD 0) false [1] = true := by decide +kernel
set_option maxRecDepth 100000 in
set_option maxHeartbeats 2000000 in
theorem qalive_any (w : World) : Calls Try.prog 4 #[] w fun e w' => e = .returned (.bool true) ∧ Below w.heap.size w w' := by
  go_enter Try.func4, Try.ntmps4
  go_wp2_with fail
  refine (sof_any 6 w (by decide) (by decide)).mono ?_
  rintro e w1 ⟨⟨A1, c1, rfl, h1⟩, q⟩
  have M := ((Mem.start w).below q).addR h1
  clear q h1
  go_wp2_with fail
  refine (sof_any (-4) _ (by decide) (by decide)).mono ?_
  rintro e w2 ⟨⟨A2, c2, rfl, h2⟩, q⟩
  replace M := (M.below q).addR h2
  clear q h2
  go_wp2_with fail
  refine (qmake_any (M.r (i := 1) rfl) (M.r (i := 0) rfl)).mono ?_
  rw [al_make]
  rintro e w3 ⟨⟨A3, c3, B3, d3, rfl, h, k⟩, q⟩
  replace M := (((M.below q).addR k).addR h).new 32 #[.bool true, .slice A3 1 c3, .bool false, .slice B3 1 d3]
  clear q h k
  obtain ⟨v1, v2, v3, v4⟩ := (M.k (i := 0) rfl).four
  go_wp2_with fail
  refine (qtext_any (M.r (i := 0) rfl) (M.r (i := 1) rfl)).mono ?_
  rw [al_text]
  rintro e w4 ⟨rfl, q⟩
  replace M := M.below q
  clear q v1 v2 v3 v4
  obtain ⟨v1, v2, v3, v4⟩ := (M.k (i := 0) rfl).four
  go_wp2_with fail
  refine (qfloor_any (M.r (i := 0) rfl) (M.r (i := 1) rfl)).mono ?_
  rw [al_floor]
  rintro e w5 ⟨⟨A5, c5, rfl, h⟩, q⟩
  replace M := ((M.below q).addR h).new 30 #[.bool true, .slice A5 1 c5]
  clear q h v1 v2 v3 v4
  obtain ⟨v1, v2, _, _⟩ := (M.k (i := 0) rfl).both
  go_wp2_with fail
  refine (ssmall_any true A5 c5 [2] _ (M.r (i := 0) rfl)).mono ?_
  rw [al_small]
  rintro e w6 ⟨rfl, q⟩
  replace M := M.below q
  clear q v1 v2
  obtain ⟨v1, v2, v3, v4⟩ := (M.k (i := 1) rfl).four
  go_wp2_with fail
  refine (qright_any (M.r (i := 1) rfl) (M.r (i := 2) rfl)).mono ?_
  rw [al_right]
  rintro e w7 ⟨rfl, q⟩
  replace M := M.below q
  clear q v1 v2 v3 v4
  go_wp2_with fail
  refine (qof_any 0 _ (by decide) (by decide)).mono ?_
  rintro e w8 ⟨⟨A8, c8, B8, d8, rfl, h, k⟩, q⟩
  replace M := ((M.below q).addR k).addR h
  clear q h k
  go_wp2_with fail
  refine (qright_any (M.r (i := 0) rfl) (M.r (i := 1) rfl)).mono ?_
  rw [al_right0]
  rintro e w9 ⟨rfl, q⟩
  replace M := M.below q
  go_wp2
  go_ret
  exact ⟨rfl, M.bel⟩
theorem fitQ_len (q : Rat) : (fitQ q).2.1.length ≤ 64 ∧ (fitQ q).2.2.2.1.length ≤ 64 := by
  unfold fitQ
  split
  · rename_i h
    exact h
  · exact ⟨Nat.zero_le _, Nat.zero_le _⟩
theorem qmakeR_len (n m : Bool) (xs ys : List Nat) : (qmakeR n xs m ys).2.1.length ≤ 64 ∧ (qmakeR n xs m ys).2.2.2.1.length ≤ 64 := by
  unfold qmakeR
  split
  · exact fitQ_len _
  · exact ⟨Nat.zero_le _, Nat.zero_le _⟩
theorem sD_i64Q {z : Int} (h : -9223372036854775808 ≤ z) (h' : z ≤ 9223372036854775807) : (sD z).length ≤ 1000000 := Nat.le_trans (sD_small (k := 2) (by omega)) (by decide)
theorem qmake_eq {n m : Bool} {A B : Option Addr} {c d : Nat} {xs ys : List Nat} {w : World} {r : R5} (hr : qmakeR n xs m ys = r) (ha : Rd w A c xs) (hb : Rd w B d ys) :
    Calls Try.prog 17 #[iv n A xs.length c, iv m B ys.length d] w fun e w' => RetQE w w' e r := by
  subst hr
  exact qmake_any ha hb
theorem qaddR_len (n : Bool) (xs : List Nat) (m : Bool) (ys : List Nat) (n' : Bool) (xs' : List Nat) (m' : Bool) (ys' : List Nat) : (qaddR n xs m ys n' xs' m' ys').2.1.length ≤ 64 ∧ (qaddR n xs m ys n' xs' m' ys').2.2.2.1.length ≤ 64 := by
  unfold qaddR
  split
  · exact fitQ_len _
  · exact ⟨Nat.zero_le _, Nat.zero_le _⟩
theorem qmulR_len (n : Bool) (xs : List Nat) (m : Bool) (ys : List Nat) (n' : Bool) (xs' : List Nat) (m' : Bool) (ys' : List Nat) : (qmulR n xs m ys n' xs' m' ys').2.1.length ≤ 64 ∧ (qmulR n xs m ys n' xs' m' ys').2.2.2.1.length ≤ 64 := by
  unfold qmulR
  split
  · exact fitQ_len _
  · exact ⟨Nat.zero_le _, Nat.zero_le _⟩
theorem qdivR_len (n : Bool) (xs : List Nat) (m : Bool) (ys : List Nat) (n' : Bool) (xs' : List Nat) (m' : Bool) (ys' : List Nat) : (qdivR n xs m ys n' xs' m' ys').2.1.length ≤ 64 ∧ (qdivR n xs m ys n' xs' m' ys').2.2.2.1.length ≤ 64 := by
  unfold qdivR
  split
  · exact fitQ_len _
  · exact ⟨Nat.zero_le _, Nat.zero_le _⟩
theorem qadd_eq {n m n' m' : Bool} {A B A' B' : Option Addr} {c d c' d' : Nat} {xs ys xs' ys' : List Nat} {w : World} {r : R5} (hr : qaddR n xs m ys n' xs' m' ys' = r) (ha : Rd w A c xs) (hb : Rd w B d ys) (ha' : Rd w A' c' xs') (hb' : Rd w B' d' ys') :
    Calls Try.prog 9 #[rv n A xs.length c m B ys.length d, rv n' A' xs'.length c' m' B' ys'.length d'] w fun e w' => RetQE w w' e r := by
  subst hr
  exact qadd_any ha hb ha' hb'
theorem qmul_eq {n m n' m' : Bool} {A B A' B' : Option Addr} {c d c' d' : Nat} {xs ys xs' ys' : List Nat} {w : World} {r : R5} (hr : qmulR n xs m ys n' xs' m' ys' = r) (ha : Rd w A c xs) (hb : Rd w B d ys) (ha' : Rd w A' c' xs') (hb' : Rd w B' d' ys') :
    Calls Try.prog 11 #[rv n A xs.length c m B ys.length d, rv n' A' xs'.length c' m' B' ys'.length d'] w fun e w' => RetQE w w' e r := by
  subst hr
  exact qmul_any ha hb ha' hb'
theorem qdiv_eq {n m n' m' : Bool} {A B A' B' : Option Addr} {c d c' d' : Nat} {xs ys xs' ys' : List Nat} {w : World} {r : R5} (hr : qdivR n xs m ys n' xs' m' ys' = r) (ha : Rd w A c xs) (hb : Rd w B d ys) (ha' : Rd w A' c' xs') (hb' : Rd w B' d' ys') :
    Calls Try.prog 16 #[rv n A xs.length c m B ys.length d, rv n' A' xs'.length c' m' B' ys'.length d'] w fun e w' => RetQE w w' e r := by
  subst hr
  exact qdiv_any ha hb ha' hb'
end Go.Proofs.Ytlmgdhdakeekkaa

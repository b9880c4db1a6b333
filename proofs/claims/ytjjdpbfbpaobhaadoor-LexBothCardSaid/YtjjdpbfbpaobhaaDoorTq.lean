/-
  LexBoth: its walk.
-/
import Derived.Test.YtjjdpbfbpaobhaaDoorTo
import Derived.Laws.AppendOwnNone
set_option linter.unusedSimpArgs false
set_option linter.unusedVariables false
namespace Go.Proofs.YtjjdpbfbpaobhaaDoor
open Go.RowKit Num

theorem wpList_wanted {P : Program} {ops : Array Oper} {Q : Exit → Act → World → Prop} {a : Act} {w : World} {rest : List Oper} {o : Oper} (hw : Region.wanted o (yielded ops a.tmps) = true)
    (h : ∀ K : Act → World → Prop, (∀ a w, wpList P ops Q rest a w → K a w) → o.wp P a w K Q) : wpList P ops Q (o :: rest) a w :=
  wpList_step fun K hK => by rw [if_pos hw]; exact h K hK
theorem tvals_append2 (l m : List Tok) : tvals (l ++ m) = tvals l ++ tvals m := List.flatMap_append
theorem tvals_one (l : List Tok) : ∀ u ∈ tvals l, u.oneCell' = true := by
  intro u hu
  obtain ⟨t, _, ht⟩ := List.mem_flatMap.1 hu
  simp only [tcells, List.mem_cons, List.not_mem_nil, or_false] at ht
  rcases ht with rfl | rfl | rfl | rfl <;> rfl
theorem RdT.cellsAt {w : World} {b o c : Nat} {l : List Tok} (h : RdT w (some ⟨b, o, none⟩) c l) (hn : l ≠ []) : ∀ j u, (tvals l)[j]? = some u → w.cell? ((⟨b, o, none⟩ : Addr).add j) = some u := by
  obtain ⟨b', o', hA, _, hc⟩ := h.at_ hn
  injection hA with hA
  injection hA with h1 h2 _
  subst h1 h2
  intro j u hu
  have hj : j < (tvals l).length := (List.getElem?_eq_some_iff.1 hu).1
  rw [tvals_len] at hj
  have hq : j / 4 < l.length := by omega
  obtain ⟨t1, t2, t3, t4⟩ := tcells_at l (j / 4) hq
  obtain ⟨c1, c2, c3, c4⟩ := hc (j / 4) hq
  have e : (⟨b, o, none⟩ : Addr).add j = ⟨b, o + j, none⟩ := by simp [Addr.add]
  rw [e]
  have hcase : j = j / 4 * 4 ∨ j = j / 4 * 4 + 1 ∨ j = j / 4 * 4 + 2 ∨ j = j / 4 * 4 + 3 := by omega
  generalize j / 4 = q at *
  rcases hcase with rfl | rfl | rfl | rfl
  · rw [c1, ← t1, hu]
  · rw [← Nat.add_assoc, c2, ← t2, hu]
  · rw [← Nat.add_assoc, c3, ← t3, hu]
  · rw [← Nat.add_assoc, c4, ← t4, hu]
/-- 'append(l, m...)' on two rows of tokens, the first of the call's own. -/
theorem wp_appRR {ops : Array Oper} {rest : List Oper} {o : Oper} {a : Act} {Q : Exit → Act → World → Prop} (s x : Operand) (w : World) (base : Nat) (v u : Value) (l m : List Tok) {base2 : Nat}
    (hown : OwnT w base 34 v l) (hm : OwnT w base2 34 u m) (hb : base ≤ w.heap.size) (hlen : l.length ≤ 1000000) (hlen2 : m.length ≤ 1000000)
    (hw : Region.wanted o (yielded ops a.tmps) = true) (ho : o.op = .call { callee := .builtin .append, args := #[s, x], argTypes := #[27, 27] })
    (hs : a.eval s = v) (hx : a.eval x = u)
    (K : ∀ v' w', OwnT w' base 34 v' (l ++ m) → w.grownBy w' v.ownBlock → Below base w w' → wpList Tryd.prog ops Q rest (a.put o.dst v') w') :
    wpList Tryd.prog ops Q (o :: rest) a w := by
  obtain ⟨i0, hi, hz0, hz1, hz2⟩ := info_parts info_rtok
  refine wpList_wanted hw fun KK hKK => ?_
  have hm2 := hm
  obtain ⟨_, hm3⟩ := hm2
  rcases hm3 with ⟨hu, hl0⟩ | ⟨g, cap, cur, hu, hg, hbk, hn, hc, hsz, htk⟩
  · obtain rfl : m = [] := List.length_eq_zero_iff.1 hl0
    subst hu
    have hrun := run_append_owned_none (P := Tryd.prog) (w := w) base 27 o.type 34 i0 4 Tryd.underlying27 hi v l.length (tvals l) hown
    unfold Oper.wp
    simp [execOp, ho, resolve, invoke, builtin, hs, hx, hrun, Result.andThen]
    refine hKK _ _ (K v w ?_ ⟨rfl, rfl, rfl, Nat.le_refl _, fun _ _ _ => rfl⟩ (Below.refl _ _))
    rw [List.append_nil]
    exact hown
  · obtain ⟨A, c, hv2, hr⟩ := hm.rd
    rw [hu] at hv2
    injection hv2 with e1 _ e3
    subst e1 e3
    refine wp_append_own w s x 27 ho base 34 i0 _ 4 40 Tryd.underlying27 hi hz0 hz1 hz2 rfl (by decide) v l.length (tvals l) hs hown ⟨g, 0, none⟩ m.length cap (tvals m) (hx.trans hu) (tvals_len m) ?_ (tvals_one m) ?_ ?_ hb ?_
    · by_cases hne : m = []
      · subst hne
        intro j u hj
        simp [tvals] at hj
      · exact hr.cellsAt hne
    · unfold maxLen; omega
    · omega
    · intro v' w' h1 h2 _
      refine hKK _ _ (K v' w' ?_ h2 ((Below.refl base w).grown h2 hb (fun k hk => (World.ownsRow.lt hown k hk).1)))
      unfold OwnT
      rw [tvals_append2, List.length_append]
      exact h1
theorem eqT_of_strip {a b : List Tok} (h : a.map stripT = b.map stripT) : a.length = b.length ∧ ∀ j (h1 : j < a.length) (h2 : j < b.length), eqT false a[j] b[j] := by
  have hl := congrArg List.length h
  rw [List.length_map, List.length_map] at hl
  refine ⟨hl, fun j h1 h2 => ?_⟩
  have hj := congrArg (fun z => z[j]?) h
  simp [h1, h2, stripT] at hj
  exact ⟨hj.1, hj.2.1, hj.2.2, fun e => by cases e⟩
set_option maxRecDepth 100000 in
set_option maxHeartbeats 4000000 in
theorem lexBoth_use (w : World) (hE : ErrVars w) (a : ByteArray) (ha : a.size ≤ maxLen) (b : ByteArray) (hb : b.size ≤ maxLen) : Calls Tryd.prog 6 #[.string a, .string b] w fun e w' => e = .returned (.bool true) ∧ Below w.heap.size w w' := by
  unfold maxLen at ha hb
  by_cases h1 : a.size ≤ 2000
  · have d1 : decide ((2000 : Int) < (a.size : Int)) = false := decide_eq_false (by omega)
    by_cases h2 : b.size ≤ 2000
    · have d2 : decide ((2000 : Int) < (b.size : Int)) = false := decide_eq_false (by omega)
      have hp := both_plain (a := a.data.toList) (b := b.data.toList) (by simpa using h1) (by simpa using h2)
      have hn1 := splitR_len a.data.toList
      have hn2 := splitR_len b.data.toList
      have hj : (a ++ (⟨#[10]⟩ : ByteArray) ++ b).data.toList = a.data.toList ++ 10 :: b.data.toList := by simp [ByteArray.data_append]
      have hn3 := splitR_len (a ++ (⟨#[10]⟩ : ByteArray) ++ b).data.toList
      rw [← hj] at hp
      have HP := Lib.hid hp
      clear hp hj
      go_enter Tryd.func6, Tryd.ntmps6
      go_wp2_with fail
      refine (alive_any w hE).mono ?_
      rintro e w1 ⟨rfl, q1⟩
      have hE1 := hE.below q1
      go_wp2_with fail
      refine (split_any a w1 hE1).mono ?_
      rintro e w2 h2
      obtain ⟨A, c, rfl, hA, q2⟩ := h2.rd
      have hE2 := hE1.below q2
      clear h2 hE hE1
      go_wp2_with fail
      refine (split_any b w2 hE2).mono ?_
      rintro e w3 h3
      obtain ⟨B, d, rfl, hB, q3⟩ := h3.rd
      have hE3 := hE2.below q3
      clear h3 hE2
      go_wp2_with fail
      refine (split_any (a ++ (⟨#[10]⟩ : ByteArray) ++ b) w3 hE3).mono ?_
      rintro e w4 h4
      obtain ⟨C, f, rfl, hC, q4⟩ := h4.rd
      clear h4 hE3
      have hA4 := (hA.below q3 (Nat.le_refl _)).below q4 (Nat.le_refl _)
      have hB4 := hB.below q4 (Nat.le_refl _)
      have q := below_trans (below_trans (below_trans q1 q2) q3) q4
      clear hA hB q1 q2 q3 q4
      generalize splitR a.data.toList = ra at *
      generalize splitR b.data.toList = rb at *
      generalize splitR (a ++ (⟨#[10]⟩ : ByteArray) ++ b).data.toList = rc at *
      obtain ⟨la, pa, ea⟩ := ra
      obtain ⟨lb, pb, eb⟩ := rb
      obtain ⟨lc, pc, ec⟩ := rc
      dsimp only at *
      by_cases h5 : ea = 0
      · subst h5
        by_cases h6 : eb = 0
        · subst h6
          obtain ⟨rfl, h7⟩ := HP.out.1 rfl rfl
          obtain ⟨h8, h9⟩ := eqT_of_strip h7
          have H8 := Lib.hid h8
          have H9 := Lib.hid h9
          clear HP h7 h8 h9
          go_wp2_with fail
          refine (ours_any C f lc w4 hC (by omega)).mono ?_
          rintro e w5 ⟨⟨v5, rfl, o5⟩, q5⟩
          go_wp2_with fail
          refine (ours_any A c la w5 (hA4.below q5 (Nat.le_refl _)) (by omega)).mono ?_
          rintro e w6 ⟨⟨v6, rfl, o6⟩, q6⟩
          go_wp2_with fail
          refine (ours_any B d lb w6 ((hB4.below q5 (Nat.le_refl _)).below q6 (Nat.le_refl _)) (by omega)).mono ?_
          rintro e w7 ⟨⟨v7, rfl, o7⟩, q7⟩
          obtain ⟨D, f5, rfl, hD⟩ := o5.rd
          clear o5
          have o6' := o6.below q7
          have hs56 : w5.heap.size ≤ w7.heap.size := Nat.le_trans q6.size q7.size
          go_wp2_with (at_builtin; refine wp_appRR _ _ w7 w5.heap.size v6 v7 la lb o6' o7 hs56 (by omega) (by omega) rfl rfl rfl rfl ?_; intro v8 w8 o8 g8 b8)
          obtain ⟨E, f8, rfl, hE8⟩ := o8.rd
          have b58 := (below_trans q6 q7).trans b8
          have hD8 := hD.below b58 (Nat.le_refl _)
          clear o8 g8 o6' o7 hD hs56
          go_wp2_with fail
          refine (rsame_any D E f5 f8 lc (la ++ lb) false w8 hD8 hE8 (by omega) H8.out H9.out).mono ?_
          rintro e w9 ⟨rfl, q9⟩
          go_wp2_with fail
          go_ret
          exact ⟨rfl, below_trans (below_trans (below_trans q q5) b58) q9⟩
        · have d3 : (eb != 0) = true := by simpa using h6
          have d4 : (ec != 0) = true := by simpa using HP.out.2 (Or.inr h6)
          clear HP h6
          go_wp2_with fail
          go_ret
          exact ⟨rfl, q⟩
      · have d3 : (ea != 0) = true := by simpa using h5
        have d4 : (ec != 0) = true := by simpa using HP.out.2 (Or.inl h5)
        clear HP h5
        go_wp2_with fail
        go_ret
        exact ⟨rfl, q⟩
    · have d2 : decide ((2000 : Int) < (b.size : Int)) = true := decide_eq_true (by omega)
      go_enter Tryd.func6, Tryd.ntmps6
      go_wp2_with fail
      refine (alive_any w hE).mono ?_
      rintro e w1 ⟨rfl, q1⟩
      go_wp2_with fail
      go_ret
      exact ⟨rfl, q1⟩
  · have d1 : decide ((2000 : Int) < (a.size : Int)) = true := decide_eq_true (by omega)
    go_enter Tryd.func6, Tryd.ntmps6
    go_wp2_with fail
    refine (alive_any w hE).mono ?_
    rintro e w1 ⟨rfl, q1⟩
    go_wp2_with fail
    go_ret
    exact ⟨rfl, q1⟩
end Go.Proofs.YtjjdpbfbpaobhaaDoor

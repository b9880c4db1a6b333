/-
  Contracts of Clone and DivMod.
-/
import Derived.Test.YtlmgdhdakeekkaaNatN
namespace Go.Proofs.Ytlmgdhdakeekkaa
open Go.RowKit Num

/-- 'append(out, ys...)', out the call's own. -/
theorem wp_appN {ops : Array Oper} {rest : List Oper} {o : Oper} {a : Act} {Q : Exit → Act → World → Prop} (s x : Operand) (w : World) (base : Nat) (v : Value) (xs : List Nat) (ad : Addr) (c : Nat) (ys : List Nat)
    (hown : Own w base v xs) (hr : Rd w (some ad) c ys) (hb : base ≤ w.heap.size) (hlen : xs.length ≤ 1000000) (hlen2 : ys.length ≤ 1000000)
    (hgd : o.guard = none) (ho : o.op = .call { callee := .builtin .append, args := #[s, x], argTypes := #[22, 22] })
    (hs : a.eval s = v) (hx : a.eval x = .slice (some ad) ys.length c)
    (K : ∀ v' w', Own w' base v' (xs ++ ys) → w.grownBy w' v.ownBlock → Below base w w' → wpList Try.prog ops Q rest (a.put o.dst v') w') :
    wpList Try.prog ops Q (o :: rest) a w := by
  obtain ⟨i0, hi, hz0, hz1, hz2⟩ := info_parts info_u32
  refine wpList_append_own _ hgd s x 22 ho base 78 i0 (.int .u32 0) 1 4 Try.underlying22 hi hz0 hz1 hz2 rfl (by decide) v xs.length (xs.map dv) hs hown ad ys.length c (ys.map dv) hx (by simp)
    ?_ ?_ ?_ ?_ hb ?_
  · intro j u hj
    have hjl : j < ys.length := by
      have := (List.getElem?_eq_some_iff.1 hj).1
      simpa using this
    obtain ⟨b, o', hA, hlt, hc⟩ := hr.at_ (by rintro rfl; simp at hjl)
    have hA' : ad = ⟨b, o', none⟩ := Option.some.inj hA
    rw [hA', add_lit', hc j hjl]
    rw [List.getElem?_map, List.getElem?_eq_getElem hjl] at hj
    exact hj
  · exact dv_oneCell ys
  · unfold maxLen; omega
  · omega
  · intro v' w' h1 h2 _
    refine K v' w' ?_ h2 ?_
    · unfold Own
      simpa using h1
    · exact (Below.refl base w).grown h2 hb (fun k hk => (hown.lt k hk).1)

set_option maxRecDepth 100000 in
set_option maxHeartbeats 400000 in
theorem clone_any (A : Option Addr) (c : Nat) (xs : List Nat) (w : World) (ha : Rd w A c xs) (hs : xs.length ≤ 100000) :
   Calls Try.prog 60 #[.slice A xs.length c] w fun e w' => RetS w w' e xs := by
  rcases A with _ | ad
  · have hx : xs = [] := by
      rcases xs with _ | ⟨x, xs⟩
      · rfl
      · obtain ⟨b, o, h, _⟩ := ha.at_ (by simp)
        cases h
    subst hx
    have hq := fun (w : World) => Lib.run_eql_slice_nil (P := Try.prog) w 22 78 none 0 c 0 0 Try.underlying22
    go_enter Try.func60, Try.ntmps60
    go_wp2
    go_ret
    exact ⟨⟨none, 0, rfl, Rd.nil⟩, Below.refl _ _⟩
  · have hq := fun (w : World) => Lib.run_eql_slice_nil (P := Try.prog) w 22 78 (some ad) xs.length c 0 0 Try.underlying22
    have hown : Own (w.alloc (.cells #[] 78)) w.heap.size (.slice (some ⟨w.heap.size, 0, none⟩) 0 0) [] := World.ownsRow_made w #[] 0 (Nat.le_refl _) (by simp [maxLen]) (by simp)
    have hra := ha.alloc (.cells #[] 78)
    have hbel : Below w.heap.size w (w.alloc (.cells #[] 78)) := (Below.refl _ _).alloc (Nat.le_refl _) _
    go_enter Try.func60, Try.ntmps60
    go_wp2_with (at_builtin; refine wp_appN _ _ _ w.heap.size _ [] ad c xs hown hra hbel.size (by simp) (by omega) rfl rfl rfl rfl ?_; intro v' w' hown' _ hbel')
    obtain ⟨A2, c2, rfl, hr2⟩ := hown'.rd ha.ok
    go_ret
    exact ⟨⟨A2, c2, rfl, hr2⟩, hbel.trans hbel'⟩

theorem len_one {ys : List Nat} (h : ys.length = 1) : val ys = at0 ys 0 := by
  match ys, h with
  | [y], _ => simp [val, at0]


set_option maxRecDepth 100000 in
set_option maxHeartbeats 1000000 in
theorem divmod_any (A B : Option Addr) (c d : Nat) (xs ys : List Nat) (w : World) (ha : Rd w A c xs) (hb : Rd w B d ys) :
   Calls Try.prog 46 #[.slice A xs.length c, .slice B ys.length d] w fun e w' => RetSSE w w' e (divR xs ys) := by
  by_cases h1 : rightB xs = true
  · by_cases h2 : rightB ys = true
    · by_cases h3 : ys = []
      · have hz : ((ys.length : Int) == 0) = true := by simp [h3]
        have h3' : decide (ys ≠ []) = false := by simp [h3]
        clear h3
        have HE := Lib.hid (divR_no (xs := xs) (ys := ys) (by rw [h3']; simp))
        go_enter Try.func46, Try.ntmps46
        go_wp2_with (go_at_call 53; refine (right_any _ _ _ _ (by first | exact ha | exact hb)).mono ?_; rintro e w' ⟨rfl, rfl⟩)
        go_ret3
        rw [HE.out]
        exact ⟨⟨none, 0, none, 0, rfl, Rd.nil, Rd.nil⟩, Below.refl _ _⟩
      · have hl1 := right_len h1
        have hl2 := right_len h2
        have hd1 := right_dig ha.ok h1
        have hd2 := right_dig hb.ok h2
        have hf : Fine ys := by rw [← hd2]; exact fine_dig _
        have HE := Lib.hid (divR_eq h1 h2 h3)
        have hz := len_zero_b h3
        have hV : 0 < val ys := val_pos_of_last hf h3
        have HO := fun w' ha' hb' => order_any A B c d (val xs) (val ys) w' ha' hb' (by rw [hd1]; omega) (by rw [hd2]; omega)
        rw [hd1, hd2] at HO
        have HO := Lib.hid HO
        by_cases hlt : val xs < val ys
        · have hn := cmpN_pos_b hlt
          have e1 : dig (val xs / val ys) = [] := by rw [Nat.div_eq_of_lt hlt]; rfl
          have e2 : dig (val xs % val ys) = xs := by rw [Nat.mod_eq_of_lt hlt, hd1]
          have E := Lib.hid (And.intro e1 e2)
          clear e1 e2 hd1 hd2 hlt
          go_enter Try.func46, Try.ntmps46
          go_wp2_with (first
            | (go_at_call 53; refine (right_any _ _ _ _ (by first | exact ha | exact hb)).mono ?_; rintro e w' ⟨rfl, rfl⟩)
            | (go_at_call 59; refine (HO.out _ ha hb).mono ?_; rintro e w' ⟨rfl, q0, rfl⟩)
            | (go_at_call 60; refine (clone_any _ _ _ _ (ha.drewN q0) (by omega)).mono ?_; rintro e w1 ⟨⟨A1, c1, rfl, hr1⟩, hb1⟩))
          go_ret3
          rw [HE.out]
          refine ⟨⟨none, 0, A1, c1, ?_, ?_, ?_⟩, ((Read.refl w).drewN q0 |>.below _).trans hb1⟩
          · rw [E.out.1, E.out.2]; rfl
          · rw [E.out.1]; exact Rd.nil
          · rw [E.out.2]; exact hr1
        · have hn := cmpN_neg_b hlt
          have hlen : ys.length ≤ xs.length := by rw [← hd1, ← hd2]; exact dig_len_mono (by omega)
          clear hd1 hd2 hlt
          by_cases hone : ys.length = 1
          · have ho1 : ((ys.length : Int) == 1) = true := by simp [hone]
            obtain ⟨b2, o2, rfl, hb2, hc2⟩ := hb.at_ h3
            have g1 := hc2 0 (by omega)
            rw [Nat.add_zero, ← at0_in] at g1
            have hvy := len_one hone
            have hy := at0_lt hb.ok 0
            rw [hvy] at hV HE
            have hp : (0 : Int) < (ys.length : Int) := by omega
            generalize at0 ys 0 = y at *
            have hmod : val xs % y < y := Nat.mod_lt _ hV
            obtain ⟨r, hr⟩ : ∃ r, r = val xs % y := ⟨_, rfl⟩
            rw [← hr] at hmod HE
            have HR := Lib.hid hr
            clear hvy hc2 hone hr
            go_enter Try.func46, Try.ntmps46
            go_wp2_with (first
              | (go_at_call 53; refine (right_any _ _ _ _ (by first | exact ha | exact hb)).mono ?_; rintro e w' ⟨rfl, rfl⟩)
              | (go_at_call 59; refine (HO.out _ ha hb).mono ?_; rintro e w' ⟨rfl, q0, rfl⟩)
              | (go_at_call 61; refine (small_any _ _ _ _ _ (ha.drewN q0) (by omega) hV hy).mono ?_; rintro e w1 ⟨⟨A1, c1, rfl, hr1, _⟩, hb1⟩; rw [← HR.out])
              | (go_at_call 36; refine (of_any r _ (by omega)).mono ?_; rintro e w2 ⟨⟨A2, c2, rfl, hr2⟩, hb2'⟩))
            go_ret3
            rw [HE.out]
            exact ⟨⟨A1, c1, A2, c2, rfl, hr1.below hb2' (Nat.le_refl _), hr2⟩, ((Read.refl w).drewN q0 |>.below _).trans (hb1.trans (hb2'.mono hb1.size))⟩
          · have ho1 : ((ys.length : Int) == 1) = false := by simp; omega
            have hy2 : 2 ≤ ys.length := by have := List.length_pos_iff.2 h3; omega
            go_enter Try.func46, Try.ntmps46
            go_wp2_with (first
              | (go_at_call 53; refine (right_any _ _ _ _ (by first | exact ha | exact hb)).mono ?_; rintro e w' ⟨rfl, rfl⟩)
              | (go_at_call 59; refine (HO.out _ ha hb).mono ?_; rintro e w' ⟨rfl, q0, rfl⟩)
              | (go_at_call 62; refine (long_any _ _ _ _ _ _ _ (ha.drewN q0) (hb.drewN q0) hl1 hl2 hlen hy2 hf).mono ?_; rintro e w1 ⟨⟨A1, c1, A2, c2, rfl, hr1, hr2⟩, hb1⟩))
            go_ret3
            rw [HE.out]
            exact ⟨⟨A1, c1, A2, c2, rfl, hr1, hr2⟩, ((Read.refl w).drewN q0 |>.below _).trans hb1⟩
    · have h2' : rightB ys = false := by simpa using h2
      clear h2
      have HE := Lib.hid (divR_no (xs := xs) (ys := ys) (by rw [h2']; simp))
      go_enter Try.func46, Try.ntmps46
      go_wp2_with (go_at_call 53; refine (right_any _ _ _ _ (by first | exact ha | exact hb)).mono ?_; rintro e w' ⟨rfl, rfl⟩)
      go_ret3
      rw [HE.out]
      exact ⟨⟨none, 0, none, 0, rfl, Rd.nil, Rd.nil⟩, Below.refl _ _⟩
  · have h1' : rightB xs = false := by simpa using h1
    clear h1
    have HE := Lib.hid (divR_no (xs := xs) (ys := ys) (by rw [h1']; simp))
    go_enter Try.func46, Try.ntmps46
    go_wp2_with (go_at_call 53; refine (right_any _ _ _ _ (by first | exact ha | exact hb)).mono ?_; rintro e w' ⟨rfl, rfl⟩)
    go_ret3
    rw [HE.out]
    exact ⟨⟨none, 0, none, 0, rfl, Rd.nil, Rd.nil⟩, Below.refl _ _⟩

end Go.Proofs.Ytlmgdhdakeekkaa

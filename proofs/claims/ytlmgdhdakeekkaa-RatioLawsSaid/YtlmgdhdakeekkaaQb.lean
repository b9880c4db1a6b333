/-
  Contracts of fractions: the turns of a value, whether one may be, whole ones.
-/
import Derived.Test.YtlmgdhdakeekkaaQa
import Derived.Test.YtlmgdhdakeekkaaReg
import Derived.Deep.DeepCutAuto
set_option linter.unusedSimpArgs false
set_option linter.unusedVariables false
namespace Go.Proofs.Ytlmgdhdakeekkaa
open Go.RowKit Num

theorem info_rat : (Try.prog.info? 32).map (·.size) = some 4 := by kernel_rfl
theorem info_rrat : (Try.prog.info? 26).map (·.size) = some 4 := by kernel_rfl
/-- A fraction is told. -/
def RetQ (w w' : World) (e : Ending) (n : Bool) (xs : List Nat) (m : Bool) (ys : List Nat) : Prop :=
  (∃ A c B d, e = .returned (rv n A xs.length c m B ys.length d) ∧ Rd w' A c xs ∧ Rd w' B d ys) ∧ Below w.heap.size w w'
/-- A fraction and an error are told. -/
def RetQE (w w' : World) (e : Ending) (r : R5) : Prop :=
  (∃ A c B d, e = .returned (.tuple #[rv r.1 A r.2.1.length c r.2.2.1 B r.2.2.2.1.length d, .int .i64 r.2.2.2.2]) ∧ Rd w' A c r.2.1 ∧ Rd w' B d r.2.2.2.1) ∧ Below w.heap.size w w'

set_option maxRecDepth 100000 in
theorem whole_any (neg : Bool) (A : Option Addr) (n c : Nat) (w : World) : Calls Try.prog 26 #[iv neg A n c] w fun e w' => e = .returned (iv neg A n c) ∧ Below w.heap.size w w' := by
  go_enter Try.func26, Try.ntmps26
  go_wp2
  refine bodyPost_ret (v := iv neg A n c) (by simp [results, Try.results26, go_sem]) rfl ⟨rfl, ?_⟩
  exact (below_alloc1 _ _).alloc (by simp) _
set_option maxRecDepth 100000 in
theorem ours4_any (n m : Bool) (A B : Option Addr) (l c k d : Nat) (w : World) : Calls Try.prog 15 #[rv n A l c m B k d] w fun e w' => e = .returned (rv n A l c m B k d) ∧ Below w.heap.size w w' := by
  go_enter Try.func15, Try.ntmps15
  go_wp2
  refine bodyPost_ret (v := rv n A l c m B k d) (by simp [results, Try.results15, go_sem]) rfl ⟨rfl, ?_⟩
  exact (below_alloc1 _ _).alloc (by simp) _
set_option maxRecDepth 100000 in
theorem theirs4_any (n m : Bool) (A B : Option Addr) (l c k d : Nat) (w : World) : Calls Try.prog 7 #[rv n A l c m B k d] w fun e w' => e = .returned (rv n A l c m B k d) ∧ Below w.heap.size w w' := by
  have M : Mem w ((w.alloc (.cells #[.bool n, .slice A l c, .bool m, .slice B k d] 26)).alloc (.cells #[.bool false, .slice none 0 0, .bool false, .slice none 0 0] 32)) [(w.heap.size + 1, 32, #[.bool false, .slice none 0 0, .bool false, .slice none 0 0]), (w.heap.size, 26, #[.bool n, .slice A l c, .bool m, .slice B k d])] [] :=
    ((Mem.start w).new 26 #[.bool n, .slice A l c, .bool m, .slice B k d]).newAt (by simp) 32 #[.bool false, .slice none 0 0, .bool false, .slice none 0 0]
  go_enter Try.func7, Try.ntmps7
  go_upto_region 1 with fail
  refine region_st (n := 8) (frame := ?frame1) (fun jK => [.val (.fix (.pointer (some ⟨w.heap.size, 0, none⟩))), .val (.fix (iv n A l c)), .val (.fix (iv n A l c)), .val (.fix (.pointer (some ⟨w.heap.size, 2, none⟩))), .val (.fix (iv m B k d)), .val (.fix (iv m B k d)), .val (.fix (rv n A l c m B k d)), .none].getD jK .none) [⟨w.heap.size + 1, 7, 32, #[.bool false, .slice none 0 0, .bool false, .slice none 0 0], .fix #[.bool n, .slice A l c, .bool m, .slice B k d]⟩] (by kernel_rfl) (by kernel_rfl) (by kernel_rfl) rfl (Mem.tailK M) (own_of M (by omega) (by simp <;> omega) rfl) own_one ?_ ?_ ?_
  case refine_1 =>
    intro s
    simp only [fr, Act.put, List.append_eq, List.cons_append, List.nil_append, List.setIfInBounds_toArray, List.set_cons_zero, List.set_cons_succ, Nat.reduceAdd]
    rfl
  case refine_2 =>
    refine Steps.cons 0 (j := 1) rfl ?_ (Steps.cons 1 (j := 2) rfl ?_ (Steps.cons 2 (j := 3) rfl ?_ (Steps.cons 3 (j := 4) rfl ?_ (Steps.cons 4 (j := 5) rfl ?_ (Steps.cons 5 (j := 6) rfl ?_ (Steps.cons 6 (j := 7) rfl ?_ (Steps.cons 7 (j := 8) rfl ?_ Steps.nil)))))))
    · intro L s w9 hN hU hi hS K hK
      dsimp only at hK ⊢
      simp only [Act.put, List.setIfInBounds_toArray, List.set_cons_zero, List.set_cons_succ] at hK
      go_simp
      exact hK.out _ _ (hS.val rfl rfl (Below.refl _ _) rfl)
    · intro L s w9 hN hU hi hS K hK
      dsimp only at hK ⊢
      simp only [Act.put, List.setIfInBounds_toArray, List.set_cons_zero, List.set_cons_succ] at hK
      have e0 : s 0 = .pointer (some ⟨w.heap.size, 0, none⟩) := hS.val_at 0 rfl (by decide) (hN.out 0 rfl)
      simp only [e0] at hK ⊢
      obtain ⟨u1, u2, u3, u4⟩ := (hS.mem.k (i := 0) rfl).four
      go_simp
      exact hK.out _ _ (hS.val rfl rfl (Below.refl _ _) rfl)
    · intro L s w9 hN hU hi hS K hK
      dsimp only at hK ⊢
      simp only [Act.put, List.setIfInBounds_toArray, List.set_cons_zero, List.set_cons_succ] at hK
      have e1 : s 1 = iv n A l c := hS.val_at 1 rfl (by decide) (hN.out 1 rfl)
      simp only [e1] at hK ⊢
      go_simp
      go_at_call 26
      refine (whole_any _ _ _ _ _).mono ?_
      rintro e9 w10 ⟨rfl, q⟩
      exact hK.out _ _ (hS.val rfl rfl q rfl)
    · intro L s w9 hN hU hi hS K hK
      dsimp only at hK ⊢
      simp only [Act.put, List.setIfInBounds_toArray, List.set_cons_zero, List.set_cons_succ] at hK
      go_simp
      exact hK.out _ _ (hS.val rfl rfl (Below.refl _ _) rfl)
    · intro L s w9 hN hU hi hS K hK
      dsimp only at hK ⊢
      simp only [Act.put, List.setIfInBounds_toArray, List.set_cons_zero, List.set_cons_succ] at hK
      have e3 : s 3 = .pointer (some ⟨w.heap.size, 2, none⟩) := hS.val_at 3 rfl (by decide) (hN.out 3 rfl)
      simp only [e3] at hK ⊢
      obtain ⟨u1, u2, u3, u4⟩ := (hS.mem.k (i := 0) rfl).four
      go_simp
      exact hK.out _ _ (hS.val rfl rfl (Below.refl _ _) rfl)
    · intro L s w9 hN hU hi hS K hK
      dsimp only at hK ⊢
      simp only [Act.put, List.setIfInBounds_toArray, List.set_cons_zero, List.set_cons_succ] at hK
      have e4 : s 4 = iv m B k d := hS.val_at 4 rfl (by decide) (hN.out 4 rfl)
      simp only [e4] at hK ⊢
      go_simp
      go_at_call 26
      refine (whole_any _ _ _ _ _).mono ?_
      rintro e9 w10 ⟨rfl, q⟩
      exact hK.out _ _ (hS.val rfl rfl q rfl)
    · intro L s w9 hN hU hi hS K hK
      dsimp only at hK ⊢
      simp only [Act.put, List.setIfInBounds_toArray, List.set_cons_zero, List.set_cons_succ] at hK
      have e2 : s 2 = iv n A l c := hS.val_at 2 rfl (by decide) (hN.out 2 rfl)
      simp only [e2] at hK ⊢
      have e5 : s 5 = iv m B k d := hS.val_at 5 rfl (by decide) (hN.out 5 rfl)
      simp only [e5] at hK ⊢
      go_simp
      exact hK.out _ _ (hS.val rfl rfl (Below.refl _ _) rfl)
    · intro L s w9 hN hU hi hS K hK
      dsimp only at hK ⊢
      simp only [Act.put, List.setIfInBounds_toArray, List.set_cons_zero, List.set_cons_succ] at hK
      have e6 : s 6 = rv n A l c m B k d := hS.val_at 6 rfl (by decide) (hN.out 6 rfl)
      simp only [e6] at hK ⊢
      obtain ⟨_, _, _, cs9, b9, n9, z9, _⟩ := hS.own_at 0 rfl
      obtain rfl := z9 hi.out
      refine ite_of rfl ?_
      refine wp_store_row _ _ _ rfl (w.heap.size + 1) _ rfl rfl _ _ b9 info_rat rfl (by rw [← Array.all_toList]; rfl) ?_
      simp only [Act.put]
      exact hK.out undef _ (hS.fillOwn (u := undef) rfl (k := 0) rfl rfl rfl (setRow_grown _ _ _) (b9.row _) rfl rfl)
  intro L s w9 hall hS
  obtain ⟨_, _, _, ocs, ob, on, _, oz⟩ := hS.own_at 0 rfl
  obtain rfl := oz (hall 7 (by decide))
  obtain ⟨x1, x2, x3, x4⟩ := ob.four
  go_wp2
  refine bodyPost_ret (v := rv n A l c m B k d) (by simp [results, Try.results7, go_sem, x1, x2, x3, x4]) rfl ⟨rfl, hS.mem.bel⟩

set_option maxRecDepth 100000 in
theorem is_any {n : Bool} {A : Option Addr} {c : Nat} {xs : List Nat} {w : World} (z : Int) (ha : Rd w A c xs) :
    Calls Try.prog 32 #[iv n A xs.length c, .int .i64 z] w fun e w' => e = .returned (.bool (isR n xs z)) ∧ Below w.heap.size w w' := by
  have M : Mem w (w.alloc (.cells #[.bool n, .slice A xs.length c] 30)) [(w.heap.size, 30, #[.bool n, .slice A xs.length c])] [(A, c, xs)] := ((Mem.start w).addR ha).new 30 #[.bool n, .slice A xs.length c]
  obtain ⟨v1, v2, _, _⟩ := (M.k (i := 0) rfl).both
  obtain ⟨v, k, hr⟩ : ∃ v k, ssmallR n xs = (v, k) := ⟨_, _, rfl⟩
  have hI : isR n xs z = (decide (k = 0) && decide (v = z)) := by unfold isR; rw [hr]
  rw [hI]
  have HR := Lib.hid hr
  clear hI ha hr
  by_cases hk : k = 0
  · subst hk
    by_cases hv : v = z
    · subst hv
      go_enter Try.func32, Try.ntmps32
      go_wp2_with fail
      refine (ssmall_any n A c xs _ (M.r (i := 0) rfl)).mono ?_
      rintro e w2 ⟨rfl, q⟩
      rw [HR.out]
      replace M := M.below q
      go_wp2
      go_ret
      exact ⟨by simp, M.bel⟩
    · go_enter Try.func32, Try.ntmps32
      go_wp2_with fail
      refine (ssmall_any n A c xs _ (M.r (i := 0) rfl)).mono ?_
      rintro e w2 ⟨rfl, q⟩
      rw [HR.out]
      replace M := M.below q
      go_wp2
      go_ret
      exact ⟨by simp [hv], M.bel⟩
  · go_enter Try.func32, Try.ntmps32
    go_wp2_with fail
    refine (ssmall_any n A c xs _ (M.r (i := 0) rfl)).mono ?_
    rintro e w2 ⟨rfl, q⟩
    rw [HR.out]
    replace M := M.below q
    go_wp2
    go_ret
    exact ⟨by simp [hk], M.bel⟩
set_option maxRecDepth 100000 in
set_option maxHeartbeats 1000000 in
theorem qright_any {n m : Bool} {A B : Option Addr} {c d : Nat} {xs ys : List Nat} {w : World} (ha : Rd w A c xs) (hb : Rd w B d ys) :
    Calls Try.prog 13 #[rv n A xs.length c m B ys.length d] w fun e w' => e = .returned (.bool (qright n xs m ys)) ∧ Below w.heap.size w w' := by
  have M : Mem w (w.alloc (.cells #[.bool n, .slice A xs.length c, .bool m, .slice B ys.length d] 32)) [(w.heap.size, 32, #[.bool n, .slice A xs.length c, .bool m, .slice B ys.length d])] [(B, d, ys), (A, c, xs)] := (((Mem.start w).addR ha).addR hb).new 32 #[.bool n, .slice A xs.length c, .bool m, .slice B ys.length d]
  have ox := ha.ok
  have oy := hb.ok
  clear ha hb
  obtain ⟨v1, v2, v3, v4⟩ := (M.k (i := 0) rfl).four
  by_cases c1 : 64 < xs.length
  · go_enter Try.func13, Try.ntmps13
    go_wp2
    go_ret
    refine ⟨?_, M.bel⟩
    rw [show qright n xs m ys = false by simp [qright]; omega]
    rfl
  by_cases c2 : 64 < ys.length
  · go_enter Try.func13, Try.ntmps13
    go_wp2
    go_ret
    refine ⟨?_, M.bel⟩
    rw [show qright n xs m ys = false by simp [qright]; omega]
    rfl
  by_cases c3 : ys = []
  · subst c3
    go_enter Try.func13, Try.ntmps13
    go_wp2
    go_ret
    refine ⟨?_, M.bel⟩
    rw [show qright n xs m [] = false by simp [qright]]
    rfl
  have c4 : 0 < ys.length := List.length_pos_iff.2 c3
  have d1 : decide ((64 : Int) < (xs.length : Int)) = false := decide_eq_false (by omega)
  have d2 : decide ((64 : Int) < (ys.length : Int)) = false := decide_eq_false (by omega)
  have d3 : ((ys.length : Int) == 0) = false := by simp; exact c3
  cases m
  case true =>
    go_enter Try.func13, Try.ntmps13
    go_wp2
    go_ret
    refine ⟨?_, M.bel⟩
    rw [show qright n xs true ys = false by simp [qright]]
    rfl
  rcases Bool.eq_false_or_eq_true (sright n xs && sright false ys) with h | h
  · simp only [Bool.and_eq_true] at h
    obtain ⟨h1, h2⟩ := h
    have hl := gcd_len2 ox oy (sright_len h1) (sright_len h2)
    have HQ : Hid (isR false (dig (Nat.gcd (val xs) (val ys))) 1 = qright n xs false ys) := by
      show _ = _
      rw [isR_dig hl]
      unfold qright
      rw [h1, h2, decide_eq_true (p := xs.length ≤ 64) (by omega), decide_eq_true (p := ys.length ≤ 64) (by omega), decide_eq_true c3]
      rfl
    have HG := Lib.hid (sgcd_sok h1 h2)
    clear h1 h2 hl ox oy c3
    generalize Nat.gcd (val xs) (val ys) = g at *
    go_enter Try.func13, Try.ntmps13
    go_wp2_with fail
    refine (sgcd_any n false A B c d xs ys _ (M.r (i := 1) rfl) (M.r (i := 0) rfl)).mono ?_
    rw [HG.out]
    rintro e w2 ⟨⟨A2, c2, rfl, h⟩, q⟩
    replace M := ((M.below q).addR h).new 30 #[.bool false, .slice A2 (dig g).length c2]
    clear q h v1 v2 v3 v4
    obtain ⟨v1, v2, _, _⟩ := (M.k (i := 0) rfl).both
    go_wp2_with fail
    refine (is_any 1 (M.r (i := 0) rfl)).mono ?_
    rintro e w3 ⟨rfl, q⟩
    replace M := M.below q
    rw [HQ.out]
    go_wp2
    go_ret
    exact ⟨rfl, M.bel⟩
  · have HG := Lib.hid (sgcdR_no h)
    have HQ : Hid (qright n xs false ys = false) := by
      show _ = _
      simp only [Bool.and_eq_false_iff] at h
      rcases h with h | h <;> simp [qright, h]
    clear h
    go_enter Try.func13, Try.ntmps13
    go_wp2_with fail
    refine (sgcd_any n false A B c d xs ys _ (M.r (i := 1) rfl) (M.r (i := 0) rfl)).mono ?_
    rw [HG.out]
    rintro e w2 ⟨⟨A2, c2, rfl, h⟩, q⟩
    replace M := ((M.below q).addR h).new 30 #[.bool false, .slice A2 0 c2]
    go_wp2
    go_ret
    exact ⟨by rw [HQ.out]; rfl, M.bel⟩
set_option maxRecDepth 100000 in
theorem one_any {n : Bool} {A : Option Addr} {c : Nat} {xs : List Nat} {w : World} (ha : Rd w A c xs) :
    Calls Try.prog 25 #[iv n A xs.length c] w fun e w' => e = .returned (.bool (!n && decide (xs = [1]))) ∧ Below w.heap.size w w' := by
  cases n
  case true =>
    have M := ((Mem.start w).addR ha).new 24 #[.bool true, .slice A xs.length c]
    obtain ⟨v1, v2, _, _⟩ := (M.k (i := 0) rfl).both
    go_enter Try.func25, Try.ntmps25
    go_wp2
    go_ret
    exact ⟨by simp, M.bel⟩
  by_cases h1 : xs.length = 1
  case neg =>
    have h2 : (decide (xs = [1])) = false := decide_eq_false (fun e => h1 (by rw [e]; rfl))
    have d1 : ((xs.length : Int) == 1) = false := by simp; omega
    have M := ((Mem.start w).addR ha).new 24 #[.bool false, .slice A xs.length c]
    obtain ⟨v1, v2, _, _⟩ := (M.k (i := 0) rfl).both
    go_enter Try.func25, Try.ntmps25
    go_wp2
    go_ret
    exact ⟨by rw [h2]; rfl, M.bel⟩
  obtain ⟨x, rfl⟩ := List.length_eq_one_iff.1 h1
  clear h1
  have M : Mem w (w.alloc (.cells #[.bool false, .slice A 1 c] 24)) [(w.heap.size, 24, #[.bool false, .slice A 1 c])] [(A, c, [x])] := ((Mem.start w).addR ha).new 24 #[.bool false, .slice A 1 c]
  obtain ⟨v1, v2, _, _⟩ := (M.k (i := 0) rfl).both
  obtain ⟨g, o, rfl, _, hc⟩ := (M.r (i := 0) rfl).at_ (by simp)
  have hc0 := hc 0 (by simp)
  simp only [Nat.add_zero, List.getElem_cons_zero] at hc0
  clear hc ha
  show Calls _ _ #[iv false _ 1 c] _ _
  by_cases hx : x = 1
  · subst hx
    go_enter Try.func25, Try.ntmps25
    go_wp2
    go_ret
    exact ⟨by simp, M.bel⟩
  · have d1 : ((x : Int) == 1) = false := by simp; omega
    go_enter Try.func25, Try.ntmps25
    go_wp2
    go_ret
    exact ⟨by simp [hx], M.bel⟩
set_option maxRecDepth 100000 in
set_option maxHeartbeats 4000000 in
theorem rqright_any {n m : Bool} {A B : Option Addr} {c d : Nat} {xs ys : List Nat} {w : World} (ha : Rd w A c xs) (hb : Rd w B d ys) :
    Calls Try.prog 6 #[rv n A xs.length c m B ys.length d] w fun e w' => e = .returned (.bool (qright n xs m ys)) ∧ Below w.heap.size w w' := by
  have M : Mem w (w.alloc (.cells #[.bool n, .slice A xs.length c, .bool m, .slice B ys.length d] 26)) [(w.heap.size, 26, #[.bool n, .slice A xs.length c, .bool m, .slice B ys.length d])] [(B, d, ys), (A, c, xs)] := (((Mem.start w).addR ha).addR hb).new 26 #[.bool n, .slice A xs.length c, .bool m, .slice B ys.length d]
  have ox := ha.ok
  have oy := hb.ok
  clear ha hb
  obtain ⟨v1, v2, v3, v4⟩ := (M.k (i := 0) rfl).four
  rcases Bool.eq_false_or_eq_true (sright n xs) with h1 | h1
  case inr =>
    have HQ : Hid (qright n xs m ys = false) := by show _ = _; simp [qright, h1]
    have H1 := Lib.hid h1
    clear h1
    go_enter Try.func6, Try.ntmps6
    go_wp2_with fail
    refine (srright_any _ A c xs _ (M.r (i := 1) rfl)).mono ?_
    rintro e z1 ⟨rfl, q⟩
    rw [H1.out]
    replace M := M.below q
    clear q v1 v2 v3 v4
    obtain ⟨v1, v2, v3, v4⟩ := (M.k (i := 0) rfl).four
    go_wp2
    go_ret
    exact ⟨by rw [HQ.out]; rfl, M.bel⟩
  have H1 := Lib.hid h1
  rcases Bool.eq_false_or_eq_true (sright m ys) with h2 | h2
  case inr =>
    have HQ : Hid (qright n xs m ys = false) := by show _ = _; simp [qright, h2]
    have H2 := Lib.hid h2
    clear h1 h2
    go_enter Try.func6, Try.ntmps6
    go_wp2_with fail
    refine (srright_any _ A c xs _ (M.r (i := 1) rfl)).mono ?_
    rintro e z1 ⟨rfl, q⟩
    rw [H1.out]
    replace M := M.below q
    clear q v1 v2 v3 v4
    obtain ⟨v1, v2, v3, v4⟩ := (M.k (i := 0) rfl).four
    go_wp2_with fail
    refine (srright_any _ B d ys _ (M.r (i := 0) rfl)).mono ?_
    rintro e z2 ⟨rfl, q⟩
    rw [H2.out]
    replace M := M.below q
    clear q v1 v2 v3 v4
    obtain ⟨v1, v2, v3, v4⟩ := (M.k (i := 0) rfl).four
    go_wp2
    go_ret
    exact ⟨by rw [HQ.out]; rfl, M.bel⟩
  have H2 := Lib.hid h2
  have HG := Lib.hid (sgcd_sok h1 h2)
  have HW : ∀ b : Bool, Hid (b = true → (64 < xs.length ∨ 64 < ys.length ∨ m = true ∨ ys = []) → qright n xs m ys = false) := by
    intro b _ hc
    rcases Bool.eq_false_or_eq_true (qright n xs m ys) with hq | hq
    · obtain ⟨_, _, e3, e4, e5, e6, _⟩ := qright_iff.1 hq
      rcases hc with hc | hc | hc | hc
      · omega
      · omega
      · rw [e5] at hc
        cases hc
      · exact absurd hc e6
    · exact hq
  have HV : Hid (¬ (64 < xs.length ∨ 64 < ys.length ∨ m = true ∨ ys = []) → (!false && decide (dig (Nat.gcd (val xs) (val ys)) = [1])) = qright n xs m ys) := by
    intro hc
    simp only [not_or] at hc
    obtain ⟨c1, c2, c3, c4⟩ := hc
    unfold qright
    rw [h1, h2, decide_eq_true (p := xs.length ≤ 64) (by omega), decide_eq_true (p := ys.length ≤ 64) (by omega), decide_eq_true c4]
    simp [one_dig, c3]
  clear h1 h2 ox oy
  generalize Nat.gcd (val xs) (val ys) = g at *
  cases m
  case true =>
    go_enter Try.func6, Try.ntmps6
    go_wp2_with fail
    refine (srright_any _ A c xs _ (M.r (i := 1) rfl)).mono ?_
    rintro e z1 ⟨rfl, q⟩
    rw [H1.out]
    replace M := M.below q
    clear q v1 v2 v3 v4
    obtain ⟨v1, v2, v3, v4⟩ := (M.k (i := 0) rfl).four
    go_wp2_with fail
    refine (srright_any _ B d ys _ (M.r (i := 0) rfl)).mono ?_
    rintro e z2 ⟨rfl, q⟩
    rw [H2.out]
    replace M := M.below q
    clear q v1 v2 v3 v4
    obtain ⟨v1, v2, v3, v4⟩ := (M.k (i := 0) rfl).four
    go_wp2
    all_goals (go_ret; exact ⟨by rw [(HW true).out rfl (by simp)]; rfl, M.bel⟩)
  go_enter Try.func6, Try.ntmps6
  go_wp2_with fail
  refine (srright_any _ A c xs _ (M.r (i := 1) rfl)).mono ?_
  rintro e z1 ⟨rfl, q⟩
  rw [H1.out]
  replace M := M.below q
  clear q v1 v2 v3 v4
  obtain ⟨v1, v2, v3, v4⟩ := (M.k (i := 0) rfl).four
  go_wp2_with fail
  refine (srright_any _ B d ys _ (M.r (i := 0) rfl)).mono ?_
  rintro e z2 ⟨rfl, q⟩
  rw [H2.out]
  replace M := M.below q
  clear q v1 v2 v3 v4
  obtain ⟨v1, v2, v3, v4⟩ := (M.k (i := 0) rfl).four
  go_wp2_with fail
  all_goals try (go_ret; exact ⟨by rw [(HW true).out rfl (by first | exact .inl (by omega) | exact .inr (.inl (by omega)) | exact .inr (.inr (.inr (List.length_eq_zero_iff.1 (by omega)))) | (rename_i hx; simp at hx; rcases hx with (hx | hx) | hx <;> first | exact .inl (by omega) | exact .inr (.inl (by omega)) | exact .inr (.inr (.inr hx))))]; rfl, M.bel⟩)
  have hnot : ¬ (64 < xs.length ∨ 64 < ys.length ∨ false = true ∨ ys = []) := by
    rintro (h | h | h | h)
    · omega
    · omega
    · cases h
    · subst h
      simp_all
  refine (rsgcd_any _ _ A B c d xs ys _ (M.r (i := 1) rfl) (M.r (i := 0) rfl)).mono ?_
  rw [HG.out]
  rintro e w2 ⟨⟨A2, c2, rfl, h⟩, q⟩
  replace M := ((M.below q).addR h).new 24 #[.bool false, .slice A2 (dig g).length c2]
  clear q h v1 v2 v3 v4
  obtain ⟨v1, v2, _, _⟩ := (M.k (i := 0) rfl).both
  go_wp2_with fail
  refine (one_any (M.r (i := 0) rfl)).mono ?_
  rintro e w3 ⟨rfl, q⟩
  replace M := M.below q
  rw [HV.out hnot]
  go_wp2
  go_ret
  exact ⟨rfl, M.bel⟩
end Go.Proofs.Ytlmgdhdakeekkaa

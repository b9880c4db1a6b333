/-
  RatioLaws: its closures, the plain laws, and its walk.
-/
import Derived.Test.YtlmgdhdakeekkaaQn
set_option linter.unusedSimpArgs false
set_option linter.unusedVariables false
namespace Go.Proofs.Ytlmgdhdakeekkaa
open Go.RowKit Num

theorem laws4_of {n m n' m' n'' m'' : Bool} {xs ys xs' ys' xs'' ys'' : List Nat} (ox : Ok xs) (oy : Ok ys) (ox' : Ok xs') (oy' : Ok ys') (ox'' : Ok xs'') (oy'' : Ok ys'') (h : qright n xs m ys = true) (h' : qright n' xs' m' ys' = true) (h'' : qright n'' xs'' m'' ys'' = true)
    (l1 : xs.length ≤ 8) (l2 : ys.length ≤ 8) (l3 : xs'.length ≤ 8) (l4 : ys'.length ≤ 8) (l5 : xs''.length ≤ 8) (l6 : ys''.length ≤ 8) :
    ∃ (ss1 : Bool) (ss2 : List Nat) (ss3 : Bool) (ss4 : List Nat) (pp1 : Bool) (pp2 : List Nat) (pp3 : Bool) (pp4 : List Nat) (tt1 : Bool) (tt2 : List Nat) (tt3 : Bool) (tt4 : List Nat) (uu1 : Bool) (uu2 : List Nat) (uu3 : Bool) (uu4 : List Nat) (vv1 : Bool) (vv2 : List Nat) (vv3 : Bool) (vv4 : List Nat) (rr1 : Bool) (rr2 : List Nat) (rr3 : Bool) (rr4 : List Nat) (gg1 : Bool) (gg2 : List Nat) (gg3 : Bool) (gg4 : List Nat) (kk1 : Bool) (kk2 : List Nat) (kk3 : Bool) (kk4 : List Nat),
      qaddR n xs m ys n' xs' m' ys' = (ss1, ss2, ss3, ss4, 0) ∧
      qaddR n' xs' m' ys' n xs m ys = (ss1, ss2, ss3, ss4, 0) ∧
      qmulR n xs m ys n' xs' m' ys' = (pp1, pp2, pp3, pp4, 0) ∧
      qmulR n' xs' m' ys' n xs m ys = (pp1, pp2, pp3, pp4, 0) ∧
      qaddR ss1 ss2 ss3 ss4 n'' xs'' m'' ys'' = (tt1, tt2, tt3, tt4, 0) ∧
      qaddR n' xs' m' ys' n'' xs'' m'' ys'' = (uu1, uu2, uu3, uu4, 0) ∧
      qaddR n xs m ys uu1 uu2 uu3 uu4 = (tt1, tt2, tt3, tt4, 0) ∧
      qmulR pp1 pp2 pp3 pp4 n'' xs'' m'' ys'' = (vv1, vv2, vv3, vv4, 0) ∧
      qmulR n' xs' m' ys' n'' xs'' m'' ys'' = (rr1, rr2, rr3, rr4, 0) ∧
      qmulR n xs m ys rr1 rr2 rr3 rr4 = (vv1, vv2, vv3, vv4, 0) ∧
      qmulR ss1 ss2 ss3 ss4 n'' xs'' m'' ys'' = (gg1, gg2, gg3, gg4, 0) ∧
      qmulR n xs m ys n'' xs'' m'' ys'' = (kk1, kk2, kk3, kk4, 0) ∧
      qaddR kk1 kk2 kk3 kk4 rr1 rr2 rr3 rr4 = (gg1, gg2, gg3, gg4, 0) ∧
      qright ss1 ss2 ss3 ss4 = true ∧ qright pp1 pp2 pp3 pp4 = true ∧ qright tt1 tt2 tt3 tt4 = true ∧ qright vv1 vv2 vv3 vv4 = true ∧ qright gg1 gg2 gg3 gg4 = true ∧ (xs' = [] → qdivR n xs m ys n' xs' m' ys' = dbad 2) ∧ (xs' ≠ [] → ∃ (d1 : Bool) (d2 : List Nat) (d3 : Bool) (d4 : List Nat), qdivR n xs m ys n' xs' m' ys' = (d1, d2, d3, d4, 0) ∧ qmulR d1 d2 d3 d4 n' xs' m' ys' = (n, xs, m, ys, 0)) := by
  obtain ⟨a, rfl, rfl, rfl, rfl, sa⟩ := rat_sz ox oy h l1 l2
  obtain ⟨b, rfl, rfl, rfl, rfl, sb⟩ := rat_sz ox' oy' h' l3 l4
  obtain ⟨c, rfl, rfl, rfl, rfl, sc⟩ := rat_sz ox'' oy'' h'' l5 l6
  refine ⟨_, _, _, _, _, _, _, _, _, _, _, _, _, _, _, _, _, _, _, _, _, _, _, _, _, _, _, _, _, _, _, _,
    (qadd_sz sa sb (by decide)),
    (by have h := qadd_sz sb sa (by decide); rw [Rat.add_comm b a] at h; exact h),
    (qmul_sz sa sb (by decide)),
    (by have h := qmul_sz sb sa (by decide); rw [Rat.mul_comm b a] at h; exact h),
    (qadd_sz (sa.add sb) sc (by decide)),
    (qadd_sz sb sc (by decide)),
    (by have h := qadd_sz sa (sb.add sc) (by decide); rw [← Rat.add_assoc] at h; exact h),
    (qmul_sz (sa.mul sb) sc (by decide)),
    (qmul_sz sb sc (by decide)),
    (by have h := qmul_sz sa (sb.mul sc) (by decide); rw [← Rat.mul_assoc] at h; exact h),
    (qmul_sz (sa.add sb) sc (by decide)),
    (qmul_sz sa sc (by decide)),
    (by have h := qadd_sz (sa.mul sc) (sb.mul sc) (by decide); rw [← Rat.add_mul] at h; exact h),
    qright_sz (sa.add sb) (by decide), qright_sz (sa.mul sb) (by decide), qright_sz ((sa.add sb).add sc) (by decide), qright_sz ((sa.mul sb).mul sc) (by decide), qright_sz ((sa.add sb).mul sc) (by decide), fun e => qdiv_no (Rat.num_eq_zero.1 (sD_nil.1 e)), fun e => ?_⟩
  have hb : b ≠ 0 := num_ne.1 e
  refine ⟨_, _, _, _, qdiv_sz sa sb (by decide) hb, ?_⟩
  have h := qmul_sz (sa.div sb hb) sb (by decide)
  rw [Rat.div_mul_cancel hb] at h
  exact h
set_option maxRecDepth 100000 in
theorem addL4 {n m n' m' : Bool} {A B A' B' : Option Addr} {c d c' d' : Nat} {xs ys xs' ys' : List Nat} {w : World} {r1 : Bool} {r2 : List Nat} {r3 : Bool} {r4 : List Nat} (h : qaddR n xs m ys n' xs' m' ys' = (r1, r2, r3, r4, 0)) (ha : Rd w A c xs) (hb : Rd w B d ys) (ha' : Rd w A' c' xs') (hb' : Rd w B' d' ys') :
    Calls Try.prog 8 #[rv n A xs.length c m B ys.length d, rv n' A' xs'.length c' m' B' ys'.length d'] w fun e w' => RetQ w w' e r1 r2 r3 r4 := by
  have H := Lib.hid h
  have M : Mem w (((w.alloc (.cells #[.bool n, .slice A xs.length c, .bool m, .slice B ys.length d] 32)).alloc (.cells #[.bool n', .slice A' xs'.length c', .bool m', .slice B' ys'.length d'] 32)).alloc (.cells #[.bool false, .slice none 0 0, .bool false, .slice none 0 0] 32)) [(w.heap.size + 1 + 1, 32, #[.bool false, .slice none 0 0, .bool false, .slice none 0 0]), (w.heap.size + 1, 32, #[.bool n', .slice A' xs'.length c', .bool m', .slice B' ys'.length d']), (w.heap.size, 32, #[.bool n, .slice A xs.length c, .bool m, .slice B ys.length d])] [(B', d', ys'), (A', c', xs'), (B, d, ys), (A, c, xs)] :=
    ((((((((Mem.start w).addR ha).addR hb).addR ha').addR hb').new 32 #[.bool n, .slice A xs.length c, .bool m, .slice B ys.length d]).newAt (by simp) 32 #[.bool n', .slice A' xs'.length c', .bool m', .slice B' ys'.length d']).newAt (by simp) 32 #[.bool false, .slice none 0 0, .bool false, .slice none 0 0])
  have ox := ha.ok
  have oy := hb.ok
  have ox' := ha'.ok
  have oy' := hb'.ok
  clear ha hb ha' hb'
  clear h ox oy ox' oy'
  obtain ⟨v1, v2, v3, v4⟩ := (M.k (i := 2) rfl).four
  obtain ⟨v5, v6, v7, v8⟩ := (M.k (i := 1) rfl).four
  go_enter Try.func8, Try.ntmps8
  go_wp2_with fail
  refine (qadd_eq H.out (M.r (i := 3) rfl) (M.r (i := 2) rfl) (M.r (i := 1) rfl) (M.r (i := 0) rfl)).mono ?_
  rintro e w2 ⟨⟨A2, c2, B2, d2, rfl, h, k⟩, q⟩
  replace M := ((M.below q).addR k).addR h
  have p2 := (M.k (i := 0) rfl).lt
  replace M := M.new 32 #[.bool r1, .slice A2 r2.length c2, .bool r3, .slice B2 r4.length d2]
  clear q h k v1 v2 v3 v4 v5 v6 v7 v8
  obtain ⟨v1, v2, v3, v4⟩ := (M.k (i := 0) rfl).four
  go_wp2_with ((with_reducible show wpList _ _ _ (Oper.mk none (Op.store _ _ _) _ _ _ _ :: _) _ _); refine wp_put (o := ⟨none, .store _ _ _, _, _, _, _⟩) _ _ (M.k (i := 1) rfl) rfl rfl rfl rfl info_rat rfl rfl ?_; intro w4 b4 g4; replace M := M.rowAt (i := 1) rfl (by omega) (by simp <;> omega) rfl b4 g4; obtain ⟨f1, f2, f3, f4⟩ := (M.k (i := 1) rfl).four)
  exact bodyPost_ret (v := rv r1 A2 r2.length c2 r3 B2 r4.length d2) (by simp [results, Try.results8, go_sem, f1, f2, f3, f4]) rfl ⟨⟨A2, c2, B2, d2, rfl, M.r (i := 0) rfl, M.r (i := 1) rfl⟩, M.bel⟩
set_option maxRecDepth 100000 in
theorem mulL4 {n m n' m' : Bool} {A B A' B' : Option Addr} {c d c' d' : Nat} {xs ys xs' ys' : List Nat} {w : World} {r1 : Bool} {r2 : List Nat} {r3 : Bool} {r4 : List Nat} (h : qmulR n xs m ys n' xs' m' ys' = (r1, r2, r3, r4, 0)) (ha : Rd w A c xs) (hb : Rd w B d ys) (ha' : Rd w A' c' xs') (hb' : Rd w B' d' ys') :
    Calls Try.prog 10 #[rv n A xs.length c m B ys.length d, rv n' A' xs'.length c' m' B' ys'.length d'] w fun e w' => RetQ w w' e r1 r2 r3 r4 := by
  have H := Lib.hid h
  have M : Mem w (((w.alloc (.cells #[.bool n, .slice A xs.length c, .bool m, .slice B ys.length d] 32)).alloc (.cells #[.bool n', .slice A' xs'.length c', .bool m', .slice B' ys'.length d'] 32)).alloc (.cells #[.bool false, .slice none 0 0, .bool false, .slice none 0 0] 32)) [(w.heap.size + 1 + 1, 32, #[.bool false, .slice none 0 0, .bool false, .slice none 0 0]), (w.heap.size + 1, 32, #[.bool n', .slice A' xs'.length c', .bool m', .slice B' ys'.length d']), (w.heap.size, 32, #[.bool n, .slice A xs.length c, .bool m, .slice B ys.length d])] [(B', d', ys'), (A', c', xs'), (B, d, ys), (A, c, xs)] :=
    ((((((((Mem.start w).addR ha).addR hb).addR ha').addR hb').new 32 #[.bool n, .slice A xs.length c, .bool m, .slice B ys.length d]).newAt (by simp) 32 #[.bool n', .slice A' xs'.length c', .bool m', .slice B' ys'.length d']).newAt (by simp) 32 #[.bool false, .slice none 0 0, .bool false, .slice none 0 0])
  have ox := ha.ok
  have oy := hb.ok
  have ox' := ha'.ok
  have oy' := hb'.ok
  clear ha hb ha' hb'
  clear h ox oy ox' oy'
  obtain ⟨v1, v2, v3, v4⟩ := (M.k (i := 2) rfl).four
  obtain ⟨v5, v6, v7, v8⟩ := (M.k (i := 1) rfl).four
  go_enter Try.func10, Try.ntmps10
  go_wp2_with fail
  refine (qmul_eq H.out (M.r (i := 3) rfl) (M.r (i := 2) rfl) (M.r (i := 1) rfl) (M.r (i := 0) rfl)).mono ?_
  rintro e w2 ⟨⟨A2, c2, B2, d2, rfl, h, k⟩, q⟩
  replace M := ((M.below q).addR k).addR h
  have p2 := (M.k (i := 0) rfl).lt
  replace M := M.new 32 #[.bool r1, .slice A2 r2.length c2, .bool r3, .slice B2 r4.length d2]
  clear q h k v1 v2 v3 v4 v5 v6 v7 v8
  obtain ⟨v1, v2, v3, v4⟩ := (M.k (i := 0) rfl).four
  go_wp2_with ((with_reducible show wpList _ _ _ (Oper.mk none (Op.store _ _ _) _ _ _ _ :: _) _ _); refine wp_put (o := ⟨none, .store _ _ _, _, _, _, _⟩) _ _ (M.k (i := 1) rfl) rfl rfl rfl rfl info_rat rfl rfl ?_; intro w4 b4 g4; replace M := M.rowAt (i := 1) rfl (by omega) (by simp <;> omega) rfl b4 g4; obtain ⟨f1, f2, f3, f4⟩ := (M.k (i := 1) rfl).four)
  exact bodyPost_ret (v := rv r1 A2 r2.length c2 r3 B2 r4.length d2) (by simp [results, Try.results10, go_sem, f1, f2, f3, f4]) rfl ⟨⟨A2, c2, B2, d2, rfl, M.r (i := 0) rfl, M.r (i := 1) rfl⟩, M.bel⟩
theorem qright_yes {n m : Bool} {A B : Option Addr} {c d : Nat} {xs ys : List Nat} {w : World} (h : qright n xs m ys = true) (ha : Rd w A c xs) (hb : Rd w B d ys) :
    Calls Try.prog 13 #[rv n A xs.length c m B ys.length d] w fun e w' => e = .returned (.bool true) ∧ Below w.heap.size w w' :=
  (qright_any ha hb).mono fun _ _ ⟨h1, h2⟩ => ⟨by rw [h1, h], h2⟩
set_option maxRecDepth 100000 in
set_option maxHeartbeats 1000000 in
theorem sameL4 {n m : Bool} {A B A' B' : Option Addr} {c d c' d' : Nat} {xs ys : List Nat} {w : World} (h : qright n xs m ys = true) (ha : Rd w A c xs) (hb : Rd w B d ys) (ha' : Rd w A' c' xs) (hb' : Rd w B' d' ys) :
    Calls Try.prog 12 #[rv n A xs.length c m B ys.length d, rv n A' xs.length c' m B' ys.length d'] w fun e w' => e = .returned (.bool true) ∧ Below w.heap.size w w' := by
  obtain ⟨-, -, l1, l2, -, -, -⟩ := qright_iff.1 h
  have HR := Lib.hid h
  have L1 : Hid (xs.length ≤ 1000000) := Nat.le_trans l1 (by decide)
  have L2 : Hid (ys.length ≤ 1000000) := Nat.le_trans l2 (by decide)
  have M : Mem w ((w.alloc (.cells #[.bool n, .slice A xs.length c, .bool m, .slice B ys.length d] 32)).alloc (.cells #[.bool n, .slice A' xs.length c', .bool m, .slice B' ys.length d'] 32)) [(w.heap.size + 1, 32, #[.bool n, .slice A' xs.length c', .bool m, .slice B' ys.length d']), (w.heap.size, 32, #[.bool n, .slice A xs.length c, .bool m, .slice B ys.length d])] [(B', d', ys), (A', c', xs), (B, d, ys), (A, c, xs)] :=
    (((((((Mem.start w).addR ha).addR hb).addR ha').addR hb').new 32 #[.bool n, .slice A xs.length c, .bool m, .slice B ys.length d]).newAt (by simp) 32 #[.bool n, .slice A' xs.length c', .bool m, .slice B' ys.length d'])
  clear h ha hb ha' hb' l1 l2
  go_enter Try.func12, Try.ntmps12
  go_upto_region 1 with fail
  refine region_st (n := 10) (frame := ?frame1) (fun jK => [.val (.fix (.agg #[.bool n, .slice A xs.length c, .bool m, .slice B ys.length d])), .val (.fix (.bool true)), .val (.fix (.bool true)), .val (.fix (.agg #[.bool n, .slice A xs.length c, .bool m, .slice B ys.length d])), .val (.fix (rv n A xs.length c m B ys.length d)), .val (.fix (.agg #[.bool n, .slice A' xs.length c', .bool m, .slice B' ys.length d'])), .val (.fix (rv n A' xs.length c' m B' ys.length d')), .val (.fix (.bool true)), .val (.fix (.bool true)), .val (.fix (.bool true))].getD jK .none) [] (by kernel_rfl) (by kernel_rfl) (by kernel_rfl) rfl M (fun _ h => by cases h) (fun _ h => by cases h) ?_ ?_ ?_
  case refine_1 =>
    intro s
    simp only [fr, Act.put, List.append_eq, List.cons_append, List.nil_append, List.setIfInBounds_toArray, List.set_cons_zero, List.set_cons_succ, Nat.reduceAdd]
    rfl
  case refine_2 =>
    refine Steps.cons 0 (j := 1) rfl ?_ (Steps.cons 1 (j := 2) rfl ?_ (Steps.cons 2 (j := 3) rfl ?_ (Steps.cons 3 (j := 4) rfl ?_ (Steps.cons 4 (j := 5) rfl ?_ (Steps.cons 5 (j := 6) rfl ?_ (Steps.cons 6 (j := 7) rfl ?_ (Steps.cons 7 (j := 8) rfl ?_ (Steps.cons 8 (j := 9) rfl ?_ (Steps.cons 9 (j := 10) rfl ?_ Steps.nil)))))))))
    · intro L s w9 hN hU hi hS K hK
      dsimp only at hK ⊢
      simp only [Act.put, List.setIfInBounds_toArray, List.set_cons_zero, List.set_cons_succ] at hK
      obtain ⟨u1, u2, u3, u4⟩ := (hS.mem.k (i := 1) rfl).four
      go_simp
      exact hK.out _ _ (hS.val rfl (noStore_of rfl) (Below.refl _ _) rfl)
    · intro L s w9 hN hU hi hS K hK
      dsimp only at hK ⊢
      simp only [Act.put, List.setIfInBounds_toArray, List.set_cons_zero, List.set_cons_succ] at hK
      have e0 : s 0 = .agg #[.bool n, .slice A xs.length c, .bool m, .slice B ys.length d] := hS.val_at 0 rfl (by decide) (hN.out 0 rfl)
      simp only [e0] at hK ⊢
      go_simp
      go_at_call 13
      refine (qright_yes HR.out (hS.mem.r (i := 3) rfl) (hS.mem.r (i := 2) rfl)).mono ?_
      rintro e9 w10 ⟨rfl, q⟩
      exact hK.out _ _ (hS.val rfl (noStore_of rfl) q rfl)
    · intro L s w9 hN hU hi hS K hK
      dsimp only at hK ⊢
      simp only [Act.put, List.setIfInBounds_toArray, List.set_cons_zero, List.set_cons_succ] at hK
      have e1 : s 1 = .bool true := hS.val_at 1 rfl (by decide) (hN.out 1 rfl)
      simp only [e1] at hK ⊢
      go_simp
      exact hK.out _ _ (hS.val rfl (noStore_of rfl) (Below.refl _ _) rfl)
    · intro L s w9 hN hU hi hS K hK
      dsimp only at hK ⊢
      simp only [Act.put, List.setIfInBounds_toArray, List.set_cons_zero, List.set_cons_succ] at hK
      have e2 : s 2 = .bool true := hS.val_at 2 rfl (by decide) (hN.out 2 rfl)
      simp only [e2] at hK ⊢
      obtain ⟨u1, u2, u3, u4⟩ := (hS.mem.k (i := 1) rfl).four
      go_simp
      exact hK.out _ _ (hS.val rfl (noStore_of rfl) (Below.refl _ _) rfl)
    · intro L s w9 hN hU hi hS K hK
      dsimp only at hK ⊢
      simp only [Act.put, List.setIfInBounds_toArray, List.set_cons_zero, List.set_cons_succ] at hK
      have e3 : s 3 = .agg #[.bool n, .slice A xs.length c, .bool m, .slice B ys.length d] := hS.val_at 3 rfl (by decide) (hN.out 3 rfl)
      simp only [e3] at hK ⊢
      have e2 : s 2 = .bool true := hS.val_at 2 rfl (by decide) (hN.out 2 rfl)
      simp only [e2] at hK ⊢
      go_simp
      go_at_call 15
      refine (ours4_any _ _ _ _ _ _ _ _ _).mono ?_
      rintro e9 w10 ⟨rfl, q⟩
      exact hK.out _ _ (hS.val rfl (noStore_of rfl) q rfl)
    · intro L s w9 hN hU hi hS K hK
      dsimp only at hK ⊢
      simp only [Act.put, List.setIfInBounds_toArray, List.set_cons_zero, List.set_cons_succ] at hK
      have e2 : s 2 = .bool true := hS.val_at 2 rfl (by decide) (hN.out 2 rfl)
      simp only [e2] at hK ⊢
      obtain ⟨u1, u2, u3, u4⟩ := (hS.mem.k (i := 0) rfl).four
      go_simp
      exact hK.out _ _ (hS.val rfl (noStore_of rfl) (Below.refl _ _) rfl)
    · intro L s w9 hN hU hi hS K hK
      dsimp only at hK ⊢
      simp only [Act.put, List.setIfInBounds_toArray, List.set_cons_zero, List.set_cons_succ] at hK
      have e5 : s 5 = .agg #[.bool n, .slice A' xs.length c', .bool m, .slice B' ys.length d'] := hS.val_at 5 rfl (by decide) (hN.out 5 rfl)
      simp only [e5] at hK ⊢
      have e2 : s 2 = .bool true := hS.val_at 2 rfl (by decide) (hN.out 2 rfl)
      simp only [e2] at hK ⊢
      go_simp
      go_at_call 15
      refine (ours4_any _ _ _ _ _ _ _ _ _).mono ?_
      rintro e9 w10 ⟨rfl, q⟩
      exact hK.out _ _ (hS.val rfl (noStore_of rfl) q rfl)
    · intro L s w9 hN hU hi hS K hK
      dsimp only at hK ⊢
      simp only [Act.put, List.setIfInBounds_toArray, List.set_cons_zero, List.set_cons_succ] at hK
      have e4 : s 4 = rv n A xs.length c m B ys.length d := hS.val_at 4 rfl (by decide) (hN.out 4 rfl)
      simp only [e4] at hK ⊢
      have e6 : s 6 = rv n A' xs.length c' m B' ys.length d' := hS.val_at 6 rfl (by decide) (hN.out 6 rfl)
      simp only [e6] at hK ⊢
      have e2 : s 2 = .bool true := hS.val_at 2 rfl (by decide) (hN.out 2 rfl)
      simp only [e2] at hK ⊢
      go_simp
      go_at_call 14
      refine (rqsame_self (hS.mem.r (i := 3) rfl) (hS.mem.r (i := 2) rfl) (hS.mem.r (i := 1) rfl) (hS.mem.r (i := 0) rfl) L1.out L2.out).mono ?_
      rintro e9 w10 ⟨rfl, q⟩
      exact hK.out _ _ (hS.val rfl (noStore_of rfl) q rfl)
    · intro L s w9 hN hU hi hS K hK
      dsimp only at hK ⊢
      simp only [Act.put, List.setIfInBounds_toArray, List.set_cons_zero, List.set_cons_succ] at hK
      have e2 : s 2 = .bool true := hS.val_at 2 rfl (by decide) (hN.out 2 rfl)
      simp only [e2] at hK ⊢
      have e7 : s 7 = .bool true := hS.val_at 7 rfl (by decide) (hN.out 7 rfl)
      simp only [e7] at hK ⊢
      go_simp
      exact hK.out _ _ (hS.val rfl (noStore_of rfl) (Below.refl _ _) rfl)
    · intro L s w9 hN hU hi hS K hK
      dsimp only at hK ⊢
      simp only [Act.put, List.setIfInBounds_toArray, List.set_cons_zero, List.set_cons_succ] at hK
      have e8 : s 8 = .bool true := hS.val_at 8 rfl (by decide) (hN.out 8 rfl)
      simp only [e8] at hK ⊢
      go_simp
      exact hK.out _ _ (hS.val rfl (noStore_of rfl) (Below.refl _ _) rfl)
  intro L s w9 hall hS
  have e9 : s 9 = .bool true := hS.val_at 9 rfl (by decide) (hall 9 (by decide))
  go_wp2
  exact bodyPost_ret (v := .bool true) (by simp [results, Try.results12, go_sem, e9]) rfl ⟨rfl, hS.mem.bel⟩
set_option maxRecDepth 100000 in
set_option maxHeartbeats 40000000 in
theorem ratioLaws_use (w : World) (n : Bool) (A : Option Addr) (c : Nat) (xs : List Nat) (ha : Rd w A c xs) (m : Bool) (B : Option Addr) (d : Nat) (ys : List Nat) (hb : Rd w B d ys) (n' : Bool) (A' : Option Addr) (c' : Nat) (xs' : List Nat) (ha' : Rd w A' c' xs') (m' : Bool) (B' : Option Addr) (d' : Nat) (ys' : List Nat) (hb' : Rd w B' d' ys') (n'' : Bool) (A'' : Option Addr) (c'' : Nat) (xs'' : List Nat) (ha'' : Rd w A'' c'' xs'') (m'' : Bool) (B'' : Option Addr) (d'' : Nat) (ys'' : List Nat) (hb'' : Rd w B'' d'' ys'') :
    Calls Try.prog 3 #[rv n A xs.length c m B ys.length d, rv n' A' xs'.length c' m' B' ys'.length d', rv n'' A'' xs''.length c'' m'' B'' ys''.length d''] w fun e w' => e = .returned (.bool true) ∧ Below w.heap.size w w' := by
  have M : Mem w (((w.alloc (.cells #[.bool n, .slice A xs.length c, .bool m, .slice B ys.length d] 26)).alloc (.cells #[.bool n', .slice A' xs'.length c', .bool m', .slice B' ys'.length d'] 26)).alloc (.cells #[.bool n'', .slice A'' xs''.length c'', .bool m'', .slice B'' ys''.length d''] 26)) [(w.heap.size + 1 + 1, 26, #[.bool n'', .slice A'' xs''.length c'', .bool m'', .slice B'' ys''.length d'']), (w.heap.size + 1, 26, #[.bool n', .slice A' xs'.length c', .bool m', .slice B' ys'.length d']), (w.heap.size, 26, #[.bool n, .slice A xs.length c, .bool m, .slice B ys.length d])] [(B'', d'', ys''), (A'', c'', xs''), (B', d', ys'), (A', c', xs'), (B, d, ys), (A, c, xs)] :=
    ((((((((((Mem.start w).addR ha).addR hb).addR ha').addR hb').addR ha'').addR hb'').new 26 #[.bool n, .slice A xs.length c, .bool m, .slice B ys.length d]).newAt (by simp) 26 #[.bool n', .slice A' xs'.length c', .bool m', .slice B' ys'.length d']).newAt (by simp) 26 #[.bool n'', .slice A'' xs''.length c'', .bool m'', .slice B'' ys''.length d''])
  have ox := ha.ok
  have oy := hb.ok
  have ox' := ha'.ok
  have oy' := hb'.ok
  have ox'' := ha''.ok
  have oy'' := hb''.ok
  clear ha hb ha' hb' ha'' hb''
  by_cases hf : xs.length ≤ 8 ∧ ys.length ≤ 8 ∧ xs'.length ≤ 8 ∧ ys'.length ≤ 8 ∧ xs''.length ≤ 8 ∧ ys''.length ≤ 8
  case neg =>
    have HF : Hid (decide (xs.length ≤ 8 ∧ ys.length ≤ 8 ∧ xs'.length ≤ 8 ∧ ys'.length ≤ 8 ∧ xs''.length ≤ 8 ∧ ys''.length ≤ 8) = false) := decide_eq_false hf
    clear hf
    go_enter Try.func3, Try.ntmps3
    go_wp2_with fail
    refine (qalive_any _).mono ?_
    rintro e y1 ⟨rfl, q⟩
    replace M := M.below q
    clear q
    obtain ⟨v1, v2, v3, v4⟩ := (M.k (i := 2) rfl).four
    obtain ⟨v5, v6, v7, v8⟩ := (M.k (i := 1) rfl).four
    obtain ⟨v9, v10, v11, v12⟩ := (M.k (i := 0) rfl).four
    go_wp2_with fail
    refine (few4_3 rfl).mono ?_
    rw [HF.out]
    rintro e y2 ⟨rfl, q⟩
    replace M := M.below q
    clear q v1 v2 v3 v4 v5 v6 v7 v8 v9 v10 v11 v12
    go_wp2
    go_ret
    exact ⟨rfl, M.bel⟩
  have HF : Hid (decide (xs.length ≤ 8 ∧ ys.length ≤ 8 ∧ xs'.length ≤ 8 ∧ ys'.length ≤ 8 ∧ xs''.length ≤ 8 ∧ ys''.length ≤ 8) = true) := decide_eq_true hf
  rcases Bool.eq_false_or_eq_true (qright n xs m ys) with r1 | r1
  case inr =>
    have R1 := Lib.hid r1
    clear r1 hf
    go_enter Try.func3, Try.ntmps3
    go_wp2_with fail
    refine (qalive_any _).mono ?_
    rintro e y1 ⟨rfl, q⟩
    replace M := M.below q
    clear q
    obtain ⟨v1, v2, v3, v4⟩ := (M.k (i := 2) rfl).four
    obtain ⟨v5, v6, v7, v8⟩ := (M.k (i := 1) rfl).four
    obtain ⟨v9, v10, v11, v12⟩ := (M.k (i := 0) rfl).four
    go_wp2_with fail
    refine (few4_3 rfl).mono ?_
    rw [HF.out]
    rintro e y2 ⟨rfl, q⟩
    replace M := M.below q
    clear q v1 v2 v3 v4 v5 v6 v7 v8 v9 v10 v11 v12
    obtain ⟨v1, v2, v3, v4⟩ := (M.k (i := 2) rfl).four
    obtain ⟨v5, v6, v7, v8⟩ := (M.k (i := 1) rfl).four
    obtain ⟨v9, v10, v11, v12⟩ := (M.k (i := 0) rfl).four
    go_wp2_with fail
    refine (rqright_any (M.r (i := 5) rfl) (M.r (i := 4) rfl)).mono ?_
    rw [R1.out]
    rintro e y3 ⟨rfl, q⟩
    replace M := M.below q
    clear q v1 v2 v3 v4 v5 v6 v7 v8 v9 v10 v11 v12
    go_wp2
    go_ret
    exact ⟨rfl, M.bel⟩
  have R1 := Lib.hid r1
  rcases Bool.eq_false_or_eq_true (qright n' xs' m' ys') with r2 | r2
  case inr =>
    have R2 := Lib.hid r2
    clear r1 r2 hf
    go_enter Try.func3, Try.ntmps3
    go_wp2_with fail
    refine (qalive_any _).mono ?_
    rintro e y1 ⟨rfl, q⟩
    replace M := M.below q
    clear q
    obtain ⟨v1, v2, v3, v4⟩ := (M.k (i := 2) rfl).four
    obtain ⟨v5, v6, v7, v8⟩ := (M.k (i := 1) rfl).four
    obtain ⟨v9, v10, v11, v12⟩ := (M.k (i := 0) rfl).four
    go_wp2_with fail
    refine (few4_3 rfl).mono ?_
    rw [HF.out]
    rintro e y2 ⟨rfl, q⟩
    replace M := M.below q
    clear q v1 v2 v3 v4 v5 v6 v7 v8 v9 v10 v11 v12
    obtain ⟨v1, v2, v3, v4⟩ := (M.k (i := 2) rfl).four
    obtain ⟨v5, v6, v7, v8⟩ := (M.k (i := 1) rfl).four
    obtain ⟨v9, v10, v11, v12⟩ := (M.k (i := 0) rfl).four
    go_wp2_with fail
    refine (rqright_any (M.r (i := 5) rfl) (M.r (i := 4) rfl)).mono ?_
    rw [R1.out]
    rintro e y3 ⟨rfl, q⟩
    replace M := M.below q
    clear q v1 v2 v3 v4 v5 v6 v7 v8 v9 v10 v11 v12
    obtain ⟨v1, v2, v3, v4⟩ := (M.k (i := 2) rfl).four
    obtain ⟨v5, v6, v7, v8⟩ := (M.k (i := 1) rfl).four
    obtain ⟨v9, v10, v11, v12⟩ := (M.k (i := 0) rfl).four
    go_wp2_with fail
    refine (rqright_any (M.r (i := 3) rfl) (M.r (i := 2) rfl)).mono ?_
    rw [R2.out]
    rintro e y3 ⟨rfl, q⟩
    replace M := M.below q
    clear q v1 v2 v3 v4 v5 v6 v7 v8 v9 v10 v11 v12
    go_wp2
    go_ret
    exact ⟨rfl, M.bel⟩
  have R2 := Lib.hid r2
  rcases Bool.eq_false_or_eq_true (qright n'' xs'' m'' ys'') with r3 | r3
  case inr =>
    have R3 := Lib.hid r3
    clear r1 r2 r3 hf
    go_enter Try.func3, Try.ntmps3
    go_wp2_with fail
    refine (qalive_any _).mono ?_
    rintro e y1 ⟨rfl, q⟩
    replace M := M.below q
    clear q
    obtain ⟨v1, v2, v3, v4⟩ := (M.k (i := 2) rfl).four
    obtain ⟨v5, v6, v7, v8⟩ := (M.k (i := 1) rfl).four
    obtain ⟨v9, v10, v11, v12⟩ := (M.k (i := 0) rfl).four
    go_wp2_with fail
    refine (few4_3 rfl).mono ?_
    rw [HF.out]
    rintro e y2 ⟨rfl, q⟩
    replace M := M.below q
    clear q v1 v2 v3 v4 v5 v6 v7 v8 v9 v10 v11 v12
    obtain ⟨v1, v2, v3, v4⟩ := (M.k (i := 2) rfl).four
    obtain ⟨v5, v6, v7, v8⟩ := (M.k (i := 1) rfl).four
    obtain ⟨v9, v10, v11, v12⟩ := (M.k (i := 0) rfl).four
    go_wp2_with fail
    refine (rqright_any (M.r (i := 5) rfl) (M.r (i := 4) rfl)).mono ?_
    rw [R1.out]
    rintro e y3 ⟨rfl, q⟩
    replace M := M.below q
    clear q v1 v2 v3 v4 v5 v6 v7 v8 v9 v10 v11 v12
    obtain ⟨v1, v2, v3, v4⟩ := (M.k (i := 2) rfl).four
    obtain ⟨v5, v6, v7, v8⟩ := (M.k (i := 1) rfl).four
    obtain ⟨v9, v10, v11, v12⟩ := (M.k (i := 0) rfl).four
    go_wp2_with fail
    refine (rqright_any (M.r (i := 3) rfl) (M.r (i := 2) rfl)).mono ?_
    rw [R2.out]
    rintro e y3 ⟨rfl, q⟩
    replace M := M.below q
    clear q v1 v2 v3 v4 v5 v6 v7 v8 v9 v10 v11 v12
    obtain ⟨v1, v2, v3, v4⟩ := (M.k (i := 2) rfl).four
    obtain ⟨v5, v6, v7, v8⟩ := (M.k (i := 1) rfl).four
    obtain ⟨v9, v10, v11, v12⟩ := (M.k (i := 0) rfl).four
    go_wp2_with fail
    refine (rqright_any (M.r (i := 1) rfl) (M.r (i := 0) rfl)).mono ?_
    rw [R3.out]
    rintro e y3 ⟨rfl, q⟩
    replace M := M.below q
    clear q v1 v2 v3 v4 v5 v6 v7 v8 v9 v10 v11 v12
    go_wp2
    go_ret
    exact ⟨rfl, M.bel⟩
  have R3 := Lib.hid r3
  obtain ⟨hf1, hf2, hf3, hf4, hf5, hf6⟩ := hf
  obtain ⟨ss1, ss2, ss3, ss4, pp1, pp2, pp3, pp4, tt1, tt2, tt3, tt4, uu1, uu2, uu3, uu4, vv1, vv2, vv3, vv4, rr1, rr2, rr3, rr4, gg1, gg2, gg3, gg4, kk1, kk2, kk3, kk4, h1, h2, h3, h4, h5, h6, h7, h8, h9, h10, h11, h12, h13, k1, k2, k3, k4, k5, hz, hnz⟩ := laws4_of ox oy ox' oy' ox'' oy'' r1 r2 r3 hf1 hf2 hf3 hf4 hf5 hf6
  have H1 := Lib.hid h1
  have H2 := Lib.hid h2
  have H3 := Lib.hid h3
  have H4 := Lib.hid h4
  have H5 := Lib.hid h5
  have H6 := Lib.hid h6
  have H7 := Lib.hid h7
  have H8 := Lib.hid h8
  have H9 := Lib.hid h9
  have H10 := Lib.hid h10
  have H11 := Lib.hid h11
  have H12 := Lib.hid h12
  have H13 := Lib.hid h13
  have K1 := Lib.hid k1
  have K2 := Lib.hid k2
  have K3 := Lib.hid k3
  have K4 := Lib.hid k4
  have K5 := Lib.hid k5
  have HD : Hid ((xs' = [] ∧ qdivR n xs m ys n' xs' m' ys' = dbad 2) ∨ (xs' ≠ [] ∧ ∃ (e1 : Bool) (e2 : List Nat) (e3 : Bool) (e4 : List Nat), qdivR n xs m ys n' xs' m' ys' = (e1, e2, e3, e4, 0) ∧ qmulR e1 e2 e3 e4 n' xs' m' ys' = (n, xs, m, ys, 0))) := by
    by_cases h : xs' = []
    · exact .inl ⟨h, hz h⟩
    · exact .inr ⟨h, hnz h⟩
  clear hz hnz h1 h2 h3 h4 h5 h6 h7 h8 h9 h10 h11 h12 h13 k1 k2 k3 k4 k5 r1 r2 r3 hf1 hf2 hf3 hf4 hf5 hf6 ox oy ox' oy' ox'' oy''
  go_enter Try.func3, Try.ntmps3
  go_wp2_with fail
  refine (qalive_any _).mono ?_
  rintro e y1 ⟨rfl, q⟩
  replace M := M.below q
  clear q
  obtain ⟨v1, v2, v3, v4⟩ := (M.k (i := 2) rfl).four
  obtain ⟨v5, v6, v7, v8⟩ := (M.k (i := 1) rfl).four
  obtain ⟨v9, v10, v11, v12⟩ := (M.k (i := 0) rfl).four
  go_wp2_with fail
  refine (few4_3 rfl).mono ?_
  rw [HF.out]
  rintro e y2 ⟨rfl, q⟩
  replace M := M.below q
  clear q v1 v2 v3 v4 v5 v6 v7 v8 v9 v10 v11 v12
  obtain ⟨v1, v2, v3, v4⟩ := (M.k (i := 2) rfl).four
  obtain ⟨v5, v6, v7, v8⟩ := (M.k (i := 1) rfl).four
  obtain ⟨v9, v10, v11, v12⟩ := (M.k (i := 0) rfl).four
  go_wp2_with fail
  refine (rqright_any (M.r (i := 5) rfl) (M.r (i := 4) rfl)).mono ?_
  rw [R1.out]
  rintro e y3 ⟨rfl, q⟩
  replace M := M.below q
  clear q v1 v2 v3 v4 v5 v6 v7 v8 v9 v10 v11 v12
  obtain ⟨v1, v2, v3, v4⟩ := (M.k (i := 2) rfl).four
  obtain ⟨v5, v6, v7, v8⟩ := (M.k (i := 1) rfl).four
  obtain ⟨v9, v10, v11, v12⟩ := (M.k (i := 0) rfl).four
  go_wp2_with fail
  refine (rqright_any (M.r (i := 3) rfl) (M.r (i := 2) rfl)).mono ?_
  rw [R2.out]
  rintro e y3 ⟨rfl, q⟩
  replace M := M.below q
  clear q v1 v2 v3 v4 v5 v6 v7 v8 v9 v10 v11 v12
  obtain ⟨v1, v2, v3, v4⟩ := (M.k (i := 2) rfl).four
  obtain ⟨v5, v6, v7, v8⟩ := (M.k (i := 1) rfl).four
  obtain ⟨v9, v10, v11, v12⟩ := (M.k (i := 0) rfl).four
  go_wp2_with fail
  refine (rqright_any (M.r (i := 1) rfl) (M.r (i := 0) rfl)).mono ?_
  rw [R3.out]
  rintro e y3 ⟨rfl, q⟩
  replace M := M.below q
  clear q v1 v2 v3 v4 v5 v6 v7 v8 v9 v10 v11 v12
  go_upto_region 5 with fail
  go_cut [7, 8, 9] (fun s7 s8 s9 wx => ∃ (g7 g8 g9 : Nat) (A7 B7 A8 B8 A9 B9 : Option Addr) (c7 d7 c8 d8 c9 d9 : Nat), s7 = .pointer (some ⟨g7, 0, none⟩) ∧ s8 = .pointer (some ⟨g8, 0, none⟩) ∧ s9 = .pointer (some ⟨g9, 0, none⟩) ∧ Mem w wx [(g9, 32, #[.bool n'', .slice A9 xs''.length c9, .bool m'', .slice B9 ys''.length d9]), (g8, 32, #[.bool n', .slice A8 xs'.length c8, .bool m', .slice B8 ys'.length d8]), (g7, 32, #[.bool n, .slice A7 xs.length c7, .bool m, .slice B7 ys.length d7]), (w.heap.size + 1, 26, #[.bool n', .slice A' xs'.length c', .bool m', .slice B' ys'.length d'])] [(A9, c9, xs''), (B9, d9, ys''), (A8, c8, xs'), (B8, d8, ys'), (A7, c7, xs), (B7, d7, ys)])
  case first =>
    refine region_st (n := 12) (frame := ?frame2) (fun jK => [.val (.fix (.agg #[.bool n, .slice A xs.length c, .bool m, .slice B ys.length d])), .val (.fix (rv n A xs.length c m B ys.length d)), .val (.fix (.agg #[.bool n', .slice A' xs'.length c', .bool m', .slice B' ys'.length d'])), .val (.fix (rv n' A' xs'.length c' m' B' ys'.length d')), .val (.fix (.agg #[.bool n'', .slice A'' xs''.length c'', .bool m'', .slice B'' ys''.length d''])), .val (.fix (rv n'' A'' xs''.length c'' m'' B'' ys''.length d'')), .cell 9 32 #[.bool false, .slice none 0 0, .bool false, .slice none 0 0] (.rat (n) (xs) (m) (ys)), .cell 10 32 #[.bool false, .slice none 0 0, .bool false, .slice none 0 0] (.rat (n') (xs') (m') (ys')), .cell 11 32 #[.bool false, .slice none 0 0, .bool false, .slice none 0 0] (.rat (n'') (xs'') (m'') (ys'')), .none, .none, .none].getD jK .none) [] (by kernel_rfl) (by kernel_rfl) (by kernel_rfl) rfl M (fun _ h => by cases h) (fun _ h => by cases h) ?_ ?_ ?_
    case refine_1 =>
      intro s
      simp only [fr, Act.put, List.append_eq, List.cons_append, List.nil_append, List.setIfInBounds_toArray, List.set_cons_zero, List.set_cons_succ, Nat.reduceAdd]
      rfl
    case refine_2 =>
      refine Steps.cons 0 (j := 1) rfl ?_ (Steps.cons 1 (j := 2) rfl ?_ (Steps.cons 2 (j := 3) rfl ?_ (Steps.cons 3 (j := 4) rfl ?_ (Steps.cons 4 (j := 5) rfl ?_ (Steps.cons 5 (j := 6) rfl ?_ (Steps.cons 6 (j := 7) rfl ?_ (Steps.cons 7 (j := 8) rfl ?_ (Steps.cons 8 (j := 9) rfl ?_ (Steps.cons 9 (j := 10) rfl ?_ (Steps.cons 10 (j := 11) rfl ?_ (Steps.cons 11 (j := 12) rfl ?_ Steps.nil)))))))))))
      · intro L s w9 hN hU hi hS K hK
        dsimp only at hK ⊢
        simp only [Act.put, List.setIfInBounds_toArray, List.set_cons_zero, List.set_cons_succ] at hK
        obtain ⟨u1, u2, u3, u4⟩ := (hS.mem.k (i := 2) rfl).four
        go_simp
        exact hK.out _ _ (hS.val rfl rfl (Below.refl _ _) rfl)
      · intro L s w9 hN hU hi hS K hK
        dsimp only at hK ⊢
        simp only [Act.put, List.setIfInBounds_toArray, List.set_cons_zero, List.set_cons_succ] at hK
        have e0 : s 0 = .agg #[.bool n, .slice A xs.length c, .bool m, .slice B ys.length d] := hS.val_at 0 rfl (by decide) (hN.out 0 rfl)
        simp only [e0] at hK ⊢
        go_simp
        go_at_call 7
        refine (theirs4_any _ _ _ _ _ _ _ _ _).mono ?_
        rintro e9 w10 ⟨rfl, q⟩
        exact hK.out _ _ (hS.val rfl rfl q rfl)
      · intro L s w9 hN hU hi hS K hK
        dsimp only at hK ⊢
        simp only [Act.put, List.setIfInBounds_toArray, List.set_cons_zero, List.set_cons_succ] at hK
        obtain ⟨u1, u2, u3, u4⟩ := (hS.mem.k (i := 1) rfl).four
        go_simp
        exact hK.out _ _ (hS.val rfl rfl (Below.refl _ _) rfl)
      · intro L s w9 hN hU hi hS K hK
        dsimp only at hK ⊢
        simp only [Act.put, List.setIfInBounds_toArray, List.set_cons_zero, List.set_cons_succ] at hK
        have e2 : s 2 = .agg #[.bool n', .slice A' xs'.length c', .bool m', .slice B' ys'.length d'] := hS.val_at 2 rfl (by decide) (hN.out 2 rfl)
        simp only [e2] at hK ⊢
        go_simp
        go_at_call 7
        refine (theirs4_any _ _ _ _ _ _ _ _ _).mono ?_
        rintro e9 w10 ⟨rfl, q⟩
        exact hK.out _ _ (hS.val rfl rfl q rfl)
      · intro L s w9 hN hU hi hS K hK
        dsimp only at hK ⊢
        simp only [Act.put, List.setIfInBounds_toArray, List.set_cons_zero, List.set_cons_succ] at hK
        obtain ⟨u1, u2, u3, u4⟩ := (hS.mem.k (i := 0) rfl).four
        go_simp
        exact hK.out _ _ (hS.val rfl rfl (Below.refl _ _) rfl)
      · intro L s w9 hN hU hi hS K hK
        dsimp only at hK ⊢
        simp only [Act.put, List.setIfInBounds_toArray, List.set_cons_zero, List.set_cons_succ] at hK
        have e4 : s 4 = .agg #[.bool n'', .slice A'' xs''.length c'', .bool m'', .slice B'' ys''.length d''] := hS.val_at 4 rfl (by decide) (hN.out 4 rfl)
        simp only [e4] at hK ⊢
        go_simp
        go_at_call 7
        refine (theirs4_any _ _ _ _ _ _ _ _ _).mono ?_
        rintro e9 w10 ⟨rfl, q⟩
        exact hK.out _ _ (hS.val rfl rfl q rfl)
      · intro L s w9 hN hU hi hS K hK
        dsimp only at hK ⊢
        simp only [Act.put, List.setIfInBounds_toArray, List.set_cons_zero, List.set_cons_succ] at hK
        go_simp
        exact hK.out _ _ (hS.new rfl rfl hi.out (fun _ => hU.out 9 _ rfl rfl) rfl)
      · intro L s w9 hN hU hi hS K hK
        dsimp only at hK ⊢
        simp only [Act.put, List.setIfInBounds_toArray, List.set_cons_zero, List.set_cons_succ] at hK
        go_simp
        exact hK.out _ _ (hS.new rfl rfl hi.out (fun _ => hU.out 10 _ rfl rfl) rfl)
      · intro L s w9 hN hU hi hS K hK
        dsimp only at hK ⊢
        simp only [Act.put, List.setIfInBounds_toArray, List.set_cons_zero, List.set_cons_succ] at hK
        go_simp
        exact hK.out _ _ (hS.new rfl rfl hi.out (fun _ => hU.out 11 _ rfl rfl) rfl)
      · intro L s w9 hN hU hi hS K hK
        dsimp only at hK ⊢
        simp only [Act.put, List.setIfInBounds_toArray, List.set_cons_zero, List.set_cons_succ] at hK
        have e1 : s 1 = rv n A xs.length c m B ys.length d := hS.val_at 1 rfl (by decide) (hN.out 1 rfl)
        simp only [e1] at hK ⊢
        obtain ⟨g9, cs9, e9, l9, b9, n9, z9, _⟩ := hS.cell_at 6 rfl (by decide) (hN.out 6 rfl)
        obtain rfl := z9 hi.out
        simp only [e9] at hK ⊢
        refine ite_of rfl ?_
        refine wp_store_row _ _ _ rfl g9 _ rfl rfl _ _ b9 info_rat rfl (by rw [← Array.all_toList]; rfl) ?_
        simp only [Act.put]
        exact hK.out undef _ (hS.fill (u := undef) (c := .rat (n) (xs) (m) (ys)) rfl rfl (by decide) rfl (hN.out 6 rfl) hi.out e9 (setRow_grown _ _ _) (b9.row _) rfl ⟨_, _, _, _, rfl, hS.mem.r (i := 5) rfl, hS.mem.r (i := 4) rfl⟩)
      · intro L s w9 hN hU hi hS K hK
        dsimp only at hK ⊢
        simp only [Act.put, List.setIfInBounds_toArray, List.set_cons_zero, List.set_cons_succ] at hK
        have e3 : s 3 = rv n' A' xs'.length c' m' B' ys'.length d' := hS.val_at 3 rfl (by decide) (hN.out 3 rfl)
        simp only [e3] at hK ⊢
        obtain ⟨g9, cs9, e9, l9, b9, n9, z9, _⟩ := hS.cell_at 7 rfl (by decide) (hN.out 7 rfl)
        obtain rfl := z9 hi.out
        simp only [e9] at hK ⊢
        refine ite_of rfl ?_
        refine wp_store_row _ _ _ rfl g9 _ rfl rfl _ _ b9 info_rat rfl (by rw [← Array.all_toList]; rfl) ?_
        simp only [Act.put]
        exact hK.out undef _ (hS.fill (u := undef) (c := .rat (n') (xs') (m') (ys')) rfl rfl (by decide) rfl (hN.out 7 rfl) hi.out e9 (setRow_grown _ _ _) (b9.row _) rfl ⟨_, _, _, _, rfl, hS.mem.r (i := 3) rfl, hS.mem.r (i := 2) rfl⟩)
      · intro L s w9 hN hU hi hS K hK
        dsimp only at hK ⊢
        simp only [Act.put, List.setIfInBounds_toArray, List.set_cons_zero, List.set_cons_succ] at hK
        have e5 : s 5 = rv n'' A'' xs''.length c'' m'' B'' ys''.length d'' := hS.val_at 5 rfl (by decide) (hN.out 5 rfl)
        simp only [e5] at hK ⊢
        obtain ⟨g9, cs9, e9, l9, b9, n9, z9, _⟩ := hS.cell_at 8 rfl (by decide) (hN.out 8 rfl)
        obtain rfl := z9 hi.out
        simp only [e9] at hK ⊢
        refine ite_of rfl ?_
        refine wp_store_row _ _ _ rfl g9 _ rfl rfl _ _ b9 info_rat rfl (by rw [← Array.all_toList]; rfl) ?_
        simp only [Act.put]
        exact hK.out undef _ (hS.fill (u := undef) (c := .rat (n'') (xs'') (m'') (ys'')) rfl rfl (by decide) rfl (hN.out 8 rfl) hi.out e9 (setRow_grown _ _ _) (b9.row _) rfl ⟨_, _, _, _, rfl, hS.mem.r (i := 1) rfl, hS.mem.r (i := 0) rfl⟩)
    intro L s w9 hall hS
    obtain ⟨g6, cs6, e6, l6, b6, n6, _, z6⟩ := hS.cell_at 6 rfl (by decide) (hall 6 (by decide))
    obtain ⟨A6, c6, B6, d6, rfl, h6, k6⟩ := z6 (hall 9 (by decide))
    rw [e6]
    obtain ⟨g7, cs7, e7, l7, b7, n7, _, z7⟩ := hS.cell_at 7 rfl (by decide) (hall 7 (by decide))
    obtain ⟨A7, c7, B7, d7, rfl, h7, k7⟩ := z7 (hall 10 (by decide))
    rw [e7]
    obtain ⟨g8, cs8, e8, l8, b8, n8, _, z8⟩ := hS.cell_at 8 rfl (by decide) (hall 8 (by decide))
    obtain ⟨A8, c8, B8, d8, rfl, h8, k8⟩ := z8 (hall 11 (by decide))
    rw [e8]
    go_wp2_with fail
    go_meet
    exact ⟨_, _, _, A6, B6, A7, B7, A8, B8, c6, d6, c7, d7, c8, d8, rfl, rfl, rfl, ((((((((hS.mem.addR k6).addR h6).addR k7).addR h7).addR k8).addR h8).addK b6).addK b7 |>.addK b8).sub (by simp) (by simp)⟩
  case rest =>
    clear M
    obtain ⟨g7, g8, g9, PA7, PB7, PA8, PB8, PA9, PB9, pc7, pd7, pc8, pd8, pc9, pd9, rfl, rfl, rfl, M⟩ := hcut
    go_upto_region 9 with fail
    go_cut [11, 12, 127] (fun s11 s12 s127 wx => s11 = Value.func (.func 10) #[] #[] ∧ s12 = Value.func (.func 12) #[] #[] ∧ s127 = .bool false ∧ Mem w wx [(g9, 32, #[.bool n'', .slice PA9 xs''.length pc9, .bool m'', .slice PB9 ys''.length pd9]), (g8, 32, #[.bool n', .slice PA8 xs'.length pc8, .bool m', .slice PB8 ys'.length pd8]), (g7, 32, #[.bool n, .slice PA7 xs.length pc7, .bool m, .slice PB7 ys.length pd7]), (w.heap.size + 1, 26, #[.bool n', .slice A' xs'.length c', .bool m', .slice B' ys'.length d'])] [(PA9, pc9, xs''), (PB9, pd9, ys''), (PA8, pc8, xs'), (PB8, pd8, ys'), (PA7, pc7, xs), (PB7, pd7, ys)])
    case first =>
      refine region_st (n := 84) (frame := ?frame3) (fun jK => [.val (.fix (Value.func (.func 12) #[] #[])), .val (.fix (Value.func (.func 8) #[] #[])), .val (.fix (.agg #[.bool n, .slice PA7 xs.length pc7, .bool m, .slice PB7 ys.length pd7])), .val (.fix (.agg #[.bool n', .slice PA8 xs'.length pc8, .bool m', .slice PB8 ys'.length pd8])), .val (.rat (ss1) (ss2) (ss3) (ss4)), .val (.fix (Value.func (.func 8) #[] #[])), .val (.fix (.agg #[.bool n', .slice PA8 xs'.length pc8, .bool m', .slice PB8 ys'.length pd8])), .val (.fix (.agg #[.bool n, .slice PA7 xs.length pc7, .bool m, .slice PB7 ys.length pd7])), .val (.rat (ss1) (ss2) (ss3) (ss4)), .val (.fix (.bool true)), .val (.fix (.bool false)), .val (.fix (.bool false)), .val (.fix (Value.func (.func 12) #[] #[])), .val (.fix (Value.func (.func 10) #[] #[])), .val (.fix (.agg #[.bool n, .slice PA7 xs.length pc7, .bool m, .slice PB7 ys.length pd7])), .val (.fix (.agg #[.bool n', .slice PA8 xs'.length pc8, .bool m', .slice PB8 ys'.length pd8])), .val (.rat (pp1) (pp2) (pp3) (pp4)), .val (.fix (Value.func (.func 10) #[] #[])), .val (.fix (.agg #[.bool n', .slice PA8 xs'.length pc8, .bool m', .slice PB8 ys'.length pd8])), .val (.fix (.agg #[.bool n, .slice PA7 xs.length pc7, .bool m, .slice PB7 ys.length pd7])), .val (.rat (pp1) (pp2) (pp3) (pp4)), .val (.fix (.bool true)), .val (.fix (.bool false)), .val (.fix (.bool false)), .val (.fix (.bool false)), .val (.fix (Value.func (.func 12) #[] #[])), .val (.fix (Value.func (.func 8) #[] #[])), .val (.fix (Value.func (.func 8) #[] #[])), .val (.fix (.agg #[.bool n, .slice PA7 xs.length pc7, .bool m, .slice PB7 ys.length pd7])), .val (.fix (.agg #[.bool n', .slice PA8 xs'.length pc8, .bool m', .slice PB8 ys'.length pd8])), .val (.rat (ss1) (ss2) (ss3) (ss4)), .val (.fix (.agg #[.bool n'', .slice PA9 xs''.length pc9, .bool m'', .slice PB9 ys''.length pd9])), .val (.rat (tt1) (tt2) (tt3) (tt4)), .val (.fix (Value.func (.func 8) #[] #[])), .val (.fix (.agg #[.bool n, .slice PA7 xs.length pc7, .bool m, .slice PB7 ys.length pd7])), .val (.fix (Value.func (.func 8) #[] #[])), .val (.fix (.agg #[.bool n', .slice PA8 xs'.length pc8, .bool m', .slice PB8 ys'.length pd8])), .val (.fix (.agg #[.bool n'', .slice PA9 xs''.length pc9, .bool m'', .slice PB9 ys''.length pd9])), .val (.rat (uu1) (uu2) (uu3) (uu4)), .val (.rat (tt1) (tt2) (tt3) (tt4)), .val (.fix (.bool true)), .val (.fix (.bool false)), .val (.fix (.bool false)), .val (.fix (.bool false)), .val (.fix (Value.func (.func 12) #[] #[])), .val (.fix (Value.func (.func 10) #[] #[])), .val (.fix (Value.func (.func 10) #[] #[])), .val (.fix (.agg #[.bool n, .slice PA7 xs.length pc7, .bool m, .slice PB7 ys.length pd7])), .val (.fix (.agg #[.bool n', .slice PA8 xs'.length pc8, .bool m', .slice PB8 ys'.length pd8])), .val (.rat (pp1) (pp2) (pp3) (pp4)), .val (.fix (.agg #[.bool n'', .slice PA9 xs''.length pc9, .bool m'', .slice PB9 ys''.length pd9])), .val (.rat (vv1) (vv2) (vv3) (vv4)), .val (.fix (Value.func (.func 10) #[] #[])), .val (.fix (.agg #[.bool n, .slice PA7 xs.length pc7, .bool m, .slice PB7 ys.length pd7])), .val (.fix (Value.func (.func 10) #[] #[])), .val (.fix (.agg #[.bool n', .slice PA8 xs'.length pc8, .bool m', .slice PB8 ys'.length pd8])), .val (.fix (.agg #[.bool n'', .slice PA9 xs''.length pc9, .bool m'', .slice PB9 ys''.length pd9])), .val (.rat (rr1) (rr2) (rr3) (rr4)), .val (.rat (vv1) (vv2) (vv3) (vv4)), .val (.fix (.bool true)), .val (.fix (.bool false)), .val (.fix (.bool false)), .val (.fix (.bool false)), .val (.fix (Value.func (.func 12) #[] #[])), .val (.fix (Value.func (.func 10) #[] #[])), .val (.fix (Value.func (.func 8) #[] #[])), .val (.fix (.agg #[.bool n, .slice PA7 xs.length pc7, .bool m, .slice PB7 ys.length pd7])), .val (.fix (.agg #[.bool n', .slice PA8 xs'.length pc8, .bool m', .slice PB8 ys'.length pd8])), .val (.rat (ss1) (ss2) (ss3) (ss4)), .val (.fix (.agg #[.bool n'', .slice PA9 xs''.length pc9, .bool m'', .slice PB9 ys''.length pd9])), .val (.rat (gg1) (gg2) (gg3) (gg4)), .val (.fix (Value.func (.func 8) #[] #[])), .val (.fix (Value.func (.func 10) #[] #[])), .val (.fix (.agg #[.bool n, .slice PA7 xs.length pc7, .bool m, .slice PB7 ys.length pd7])), .val (.fix (.agg #[.bool n'', .slice PA9 xs''.length pc9, .bool m'', .slice PB9 ys''.length pd9])), .val (.rat (kk1) (kk2) (kk3) (kk4)), .val (.fix (Value.func (.func 10) #[] #[])), .val (.fix (.agg #[.bool n', .slice PA8 xs'.length pc8, .bool m', .slice PB8 ys'.length pd8])), .val (.fix (.agg #[.bool n'', .slice PA9 xs''.length pc9, .bool m'', .slice PB9 ys''.length pd9])), .val (.rat (rr1) (rr2) (rr3) (rr4)), .val (.rat (gg1) (gg2) (gg3) (gg4)), .val (.fix (.bool true)), .val (.fix (.bool false)), .val (.fix (.bool false))].getD jK .none) [] (by kernel_rfl) (by kernel_rfl) (by kernel_rfl) rfl M (fun _ h => by cases h) (fun _ h => by cases h) ?_ ?_ ?_
      case refine_1 =>
        intro s
        simp only [fr, Act.put, List.append_eq, List.cons_append, List.nil_append, List.setIfInBounds_toArray, List.set_cons_zero, List.set_cons_succ, Nat.reduceAdd]
        rfl
      case refine_2 =>
        refine Steps.cons 0 (j := 1) rfl ?_ (Steps.cons 1 (j := 2) rfl ?_ (Steps.cons 2 (j := 3) rfl ?_ (Steps.cons 3 (j := 4) rfl ?_ (Steps.cons 4 (j := 5) rfl ?_ (Steps.cons 5 (j := 6) rfl ?_ (Steps.cons 6 (j := 7) rfl ?_ (Steps.cons 7 (j := 8) rfl ?_ (Steps.cons 8 (j := 9) rfl ?_ (Steps.cons 9 (j := 10) rfl ?_ (Steps.cons 10 (j := 11) rfl ?_ (Steps.cons 11 (j := 12) rfl ?_ (Steps.cons 12 (j := 13) rfl ?_ (Steps.cons 13 (j := 14) rfl ?_ (Steps.cons 14 (j := 15) rfl ?_ (Steps.cons 15 (j := 16) rfl ?_ (Steps.cons 16 (j := 17) rfl ?_ (Steps.cons 17 (j := 18) rfl ?_ (Steps.cons 18 (j := 19) rfl ?_ (Steps.cons 19 (j := 20) rfl ?_ (Steps.cons 20 (j := 21) rfl ?_ (Steps.cons 21 (j := 22) rfl ?_ (Steps.cons 22 (j := 23) rfl ?_ (Steps.cons 23 (j := 24) rfl ?_ (Steps.cons 24 (j := 25) rfl ?_ (Steps.cons 25 (j := 26) rfl ?_ (Steps.cons 26 (j := 27) rfl ?_ (Steps.cons 27 (j := 28) rfl ?_ (Steps.cons 28 (j := 29) rfl ?_ (Steps.cons 29 (j := 30) rfl ?_ (Steps.cons 30 (j := 31) rfl ?_ (Steps.cons 31 (j := 32) rfl ?_ (Steps.cons 32 (j := 33) rfl ?_ (Steps.cons 33 (j := 34) rfl ?_ (Steps.cons 34 (j := 35) rfl ?_ (Steps.cons 35 (j := 36) rfl ?_ (Steps.cons 36 (j := 37) rfl ?_ (Steps.cons 37 (j := 38) rfl ?_ (Steps.cons 38 (j := 39) rfl ?_ (Steps.cons 39 (j := 40) rfl ?_ (Steps.cons 40 (j := 41) rfl ?_ (Steps.cons 41 (j := 42) rfl ?_ (Steps.cons 42 (j := 43) rfl ?_ (Steps.cons 43 (j := 44) rfl ?_ (Steps.cons 44 (j := 45) rfl ?_ (Steps.cons 45 (j := 46) rfl ?_ (Steps.cons 46 (j := 47) rfl ?_ (Steps.cons 47 (j := 48) rfl ?_ (Steps.cons 48 (j := 49) rfl ?_ (Steps.cons 49 (j := 50) rfl ?_ (Steps.cons 50 (j := 51) rfl ?_ (Steps.cons 51 (j := 52) rfl ?_ (Steps.cons 52 (j := 53) rfl ?_ (Steps.cons 53 (j := 54) rfl ?_ (Steps.cons 54 (j := 55) rfl ?_ (Steps.cons 55 (j := 56) rfl ?_ (Steps.cons 56 (j := 57) rfl ?_ (Steps.cons 57 (j := 58) rfl ?_ (Steps.cons 58 (j := 59) rfl ?_ (Steps.cons 59 (j := 60) rfl ?_ (Steps.cons 60 (j := 61) rfl ?_ (Steps.cons 61 (j := 62) rfl ?_ (Steps.cons 62 (j := 63) rfl ?_ (Steps.cons 63 (j := 64) rfl ?_ (Steps.cons 64 (j := 65) rfl ?_ (Steps.cons 65 (j := 66) rfl ?_ (Steps.cons 66 (j := 67) rfl ?_ (Steps.cons 67 (j := 68) rfl ?_ (Steps.cons 68 (j := 69) rfl ?_ (Steps.cons 69 (j := 70) rfl ?_ (Steps.cons 70 (j := 71) rfl ?_ (Steps.cons 71 (j := 72) rfl ?_ (Steps.cons 72 (j := 73) rfl ?_ (Steps.cons 73 (j := 74) rfl ?_ (Steps.cons 74 (j := 75) rfl ?_ (Steps.cons 75 (j := 76) rfl ?_ (Steps.cons 76 (j := 77) rfl ?_ (Steps.cons 77 (j := 78) rfl ?_ (Steps.cons 78 (j := 79) rfl ?_ (Steps.cons 79 (j := 80) rfl ?_ (Steps.cons 80 (j := 81) rfl ?_ (Steps.cons 81 (j := 82) rfl ?_ (Steps.cons 82 (j := 83) rfl ?_ (Steps.cons 83 (j := 84) rfl ?_ Steps.nil)))))))))))))))))))))))))))))))))))))))))))))))))))))))))))))))))))))))))))))))))))
        · intro L s w9 hN hU hi hS K hK
          dsimp only at hK ⊢
          simp only [Act.put, List.setIfInBounds_toArray, List.set_cons_zero, List.set_cons_succ] at hK
          go_simp
          exact hK.out _ _ (hS.val rfl (noStore_of rfl) (Below.refl _ _) rfl)
        · intro L s w9 hN hU hi hS K hK
          dsimp only at hK ⊢
          simp only [Act.put, List.setIfInBounds_toArray, List.set_cons_zero, List.set_cons_succ] at hK
          go_simp
          exact hK.out _ _ (hS.val rfl (noStore_of rfl) (Below.refl _ _) rfl)
        · intro L s w9 hN hU hi hS K hK
          dsimp only at hK ⊢
          simp only [Act.put, List.setIfInBounds_toArray, List.set_cons_zero, List.set_cons_succ] at hK
          obtain ⟨u1, u2, u3, u4⟩ := (hS.mem.k (i := 2) rfl).four
          go_simp
          exact hK.out _ _ (hS.val rfl (noStore_of rfl) (Below.refl _ _) rfl)
        · intro L s w9 hN hU hi hS K hK
          dsimp only at hK ⊢
          simp only [Act.put, List.setIfInBounds_toArray, List.set_cons_zero, List.set_cons_succ] at hK
          obtain ⟨u1, u2, u3, u4⟩ := (hS.mem.k (i := 1) rfl).four
          go_simp
          exact hK.out _ _ (hS.val rfl (noStore_of rfl) (Below.refl _ _) rfl)
        · intro L s w9 hN hU hi hS K hK
          dsimp only at hK ⊢
          simp only [Act.put, List.setIfInBounds_toArray, List.set_cons_zero, List.set_cons_succ] at hK
          have e1 : s 1 = Value.func (.func 8) #[] #[] := hS.val_at 1 rfl (by decide) (hN.out 1 rfl)
          simp only [e1] at hK ⊢
          have e2 : s 2 = .agg #[.bool n, .slice PA7 xs.length pc7, .bool m, .slice PB7 ys.length pd7] := hS.val_at 2 rfl (by decide) (hN.out 2 rfl)
          simp only [e2] at hK ⊢
          have e3 : s 3 = .agg #[.bool n', .slice PA8 xs'.length pc8, .bool m', .slice PB8 ys'.length pd8] := hS.val_at 3 rfl (by decide) (hN.out 3 rfl)
          simp only [e3] at hK ⊢
          go_simp
          go_at_call 8
          refine (addL4 H1.out (hS.mem.r (i := 4) rfl) (hS.mem.r (i := 5) rfl) (hS.mem.r (i := 2) rfl) (hS.mem.r (i := 3) rfl)).mono ?_
          rintro e9 w10 ⟨⟨A0, c0, B0, d0, rfl, h0, k0⟩, q⟩
          exact hK.out _ _ (hS.val rfl (noStore_of rfl) q ⟨A0, c0, B0, d0, rfl, h0, k0⟩)
        · intro L s w9 hN hU hi hS K hK
          dsimp only at hK ⊢
          simp only [Act.put, List.setIfInBounds_toArray, List.set_cons_zero, List.set_cons_succ] at hK
          go_simp
          exact hK.out _ _ (hS.val rfl (noStore_of rfl) (Below.refl _ _) rfl)
        · intro L s w9 hN hU hi hS K hK
          dsimp only at hK ⊢
          simp only [Act.put, List.setIfInBounds_toArray, List.set_cons_zero, List.set_cons_succ] at hK
          obtain ⟨u1, u2, u3, u4⟩ := (hS.mem.k (i := 1) rfl).four
          go_simp
          exact hK.out _ _ (hS.val rfl (noStore_of rfl) (Below.refl _ _) rfl)
        · intro L s w9 hN hU hi hS K hK
          dsimp only at hK ⊢
          simp only [Act.put, List.setIfInBounds_toArray, List.set_cons_zero, List.set_cons_succ] at hK
          obtain ⟨u1, u2, u3, u4⟩ := (hS.mem.k (i := 2) rfl).four
          go_simp
          exact hK.out _ _ (hS.val rfl (noStore_of rfl) (Below.refl _ _) rfl)
        · intro L s w9 hN hU hi hS K hK
          dsimp only at hK ⊢
          simp only [Act.put, List.setIfInBounds_toArray, List.set_cons_zero, List.set_cons_succ] at hK
          have e5 : s 5 = Value.func (.func 8) #[] #[] := hS.val_at 5 rfl (by decide) (hN.out 5 rfl)
          simp only [e5] at hK ⊢
          have e6 : s 6 = .agg #[.bool n', .slice PA8 xs'.length pc8, .bool m', .slice PB8 ys'.length pd8] := hS.val_at 6 rfl (by decide) (hN.out 6 rfl)
          simp only [e6] at hK ⊢
          have e7 : s 7 = .agg #[.bool n, .slice PA7 xs.length pc7, .bool m, .slice PB7 ys.length pd7] := hS.val_at 7 rfl (by decide) (hN.out 7 rfl)
          simp only [e7] at hK ⊢
          go_simp
          go_at_call 8
          refine (addL4 H2.out (hS.mem.r (i := 2) rfl) (hS.mem.r (i := 3) rfl) (hS.mem.r (i := 4) rfl) (hS.mem.r (i := 5) rfl)).mono ?_
          rintro e9 w10 ⟨⟨A0, c0, B0, d0, rfl, h0, k0⟩, q⟩
          exact hK.out _ _ (hS.val rfl (noStore_of rfl) q ⟨A0, c0, B0, d0, rfl, h0, k0⟩)
        · intro L s w9 hN hU hi hS K hK
          dsimp only at hK ⊢
          simp only [Act.put, List.setIfInBounds_toArray, List.set_cons_zero, List.set_cons_succ] at hK
          have e0 : s 0 = Value.func (.func 12) #[] #[] := hS.val_at 0 rfl (by decide) (hN.out 0 rfl)
          simp only [e0] at hK ⊢
          obtain ⟨A4, c4, B4, d4, e4, h4, k4⟩ := hS.val_at 4 rfl (by decide) (hN.out 4 rfl)
          simp only [e4] at hK ⊢
          obtain ⟨A8, c8, B8, d8, e8, h8, k8⟩ := hS.val_at 8 rfl (by decide) (hN.out 8 rfl)
          simp only [e8] at hK ⊢
          go_simp
          go_at_call 12
          refine (sameL4 K1.out h4 k4 h8 k8).mono ?_
          rintro e9 w10 ⟨rfl, q⟩
          exact hK.out _ _ (hS.val rfl (noStore_of rfl) q rfl)
        · intro L s w9 hN hU hi hS K hK
          dsimp only at hK ⊢
          simp only [Act.put, List.setIfInBounds_toArray, List.set_cons_zero, List.set_cons_succ] at hK
          have e9 : s 9 = .bool true := hS.val_at 9 rfl (by decide) (hN.out 9 rfl)
          simp only [e9] at hK ⊢
          go_simp
          exact hK.out _ _ (hS.val rfl (noStore_of rfl) (Below.refl _ _) rfl)
        · intro L s w9 hN hU hi hS K hK
          dsimp only at hK ⊢
          simp only [Act.put, List.setIfInBounds_toArray, List.set_cons_zero, List.set_cons_succ] at hK
          have e10 : s 10 = .bool false := hS.val_at 10 rfl (by decide) (hN.out 10 rfl)
          simp only [e10] at hK ⊢
          go_simp
          exact hK.out _ _ (hS.val rfl (noStore_of rfl) (Below.refl _ _) rfl)
        · intro L s w9 hN hU hi hS K hK
          dsimp only at hK ⊢
          simp only [Act.put, List.setIfInBounds_toArray, List.set_cons_zero, List.set_cons_succ] at hK
          have e11 : s 11 = .bool false := hS.val_at 11 rfl (by decide) (hN.out 11 rfl)
          simp only [e11] at hK ⊢
          go_simp
          exact hK.out _ _ (hS.val rfl (noStore_of rfl) (Below.refl _ _) rfl)
        · intro L s w9 hN hU hi hS K hK
          dsimp only at hK ⊢
          simp only [Act.put, List.setIfInBounds_toArray, List.set_cons_zero, List.set_cons_succ] at hK
          have e11 : s 11 = .bool false := hS.val_at 11 rfl (by decide) (hN.out 11 rfl)
          simp only [e11] at hK ⊢
          go_simp
          exact hK.out _ _ (hS.val rfl (noStore_of rfl) (Below.refl _ _) rfl)
        · intro L s w9 hN hU hi hS K hK
          dsimp only at hK ⊢
          simp only [Act.put, List.setIfInBounds_toArray, List.set_cons_zero, List.set_cons_succ] at hK
          have e11 : s 11 = .bool false := hS.val_at 11 rfl (by decide) (hN.out 11 rfl)
          simp only [e11] at hK ⊢
          obtain ⟨u1, u2, u3, u4⟩ := (hS.mem.k (i := 2) rfl).four
          go_simp
          exact hK.out _ _ (hS.val rfl (noStore_of rfl) (Below.refl _ _) rfl)
        · intro L s w9 hN hU hi hS K hK
          dsimp only at hK ⊢
          simp only [Act.put, List.setIfInBounds_toArray, List.set_cons_zero, List.set_cons_succ] at hK
          have e11 : s 11 = .bool false := hS.val_at 11 rfl (by decide) (hN.out 11 rfl)
          simp only [e11] at hK ⊢
          obtain ⟨u1, u2, u3, u4⟩ := (hS.mem.k (i := 1) rfl).four
          go_simp
          exact hK.out _ _ (hS.val rfl (noStore_of rfl) (Below.refl _ _) rfl)
        · intro L s w9 hN hU hi hS K hK
          dsimp only at hK ⊢
          simp only [Act.put, List.setIfInBounds_toArray, List.set_cons_zero, List.set_cons_succ] at hK
          have e13 : s 13 = Value.func (.func 10) #[] #[] := hS.val_at 13 rfl (by decide) (hN.out 13 rfl)
          simp only [e13] at hK ⊢
          have e14 : s 14 = .agg #[.bool n, .slice PA7 xs.length pc7, .bool m, .slice PB7 ys.length pd7] := hS.val_at 14 rfl (by decide) (hN.out 14 rfl)
          simp only [e14] at hK ⊢
          have e15 : s 15 = .agg #[.bool n', .slice PA8 xs'.length pc8, .bool m', .slice PB8 ys'.length pd8] := hS.val_at 15 rfl (by decide) (hN.out 15 rfl)
          simp only [e15] at hK ⊢
          have e11 : s 11 = .bool false := hS.val_at 11 rfl (by decide) (hN.out 11 rfl)
          simp only [e11] at hK ⊢
          go_simp
          go_at_call 10
          refine (mulL4 H3.out (hS.mem.r (i := 4) rfl) (hS.mem.r (i := 5) rfl) (hS.mem.r (i := 2) rfl) (hS.mem.r (i := 3) rfl)).mono ?_
          rintro e9 w10 ⟨⟨A0, c0, B0, d0, rfl, h0, k0⟩, q⟩
          exact hK.out _ _ (hS.val rfl (noStore_of rfl) q ⟨A0, c0, B0, d0, rfl, h0, k0⟩)
        · intro L s w9 hN hU hi hS K hK
          dsimp only at hK ⊢
          simp only [Act.put, List.setIfInBounds_toArray, List.set_cons_zero, List.set_cons_succ] at hK
          have e11 : s 11 = .bool false := hS.val_at 11 rfl (by decide) (hN.out 11 rfl)
          simp only [e11] at hK ⊢
          go_simp
          exact hK.out _ _ (hS.val rfl (noStore_of rfl) (Below.refl _ _) rfl)
        · intro L s w9 hN hU hi hS K hK
          dsimp only at hK ⊢
          simp only [Act.put, List.setIfInBounds_toArray, List.set_cons_zero, List.set_cons_succ] at hK
          have e11 : s 11 = .bool false := hS.val_at 11 rfl (by decide) (hN.out 11 rfl)
          simp only [e11] at hK ⊢
          obtain ⟨u1, u2, u3, u4⟩ := (hS.mem.k (i := 1) rfl).four
          go_simp
          exact hK.out _ _ (hS.val rfl (noStore_of rfl) (Below.refl _ _) rfl)
        · intro L s w9 hN hU hi hS K hK
          dsimp only at hK ⊢
          simp only [Act.put, List.setIfInBounds_toArray, List.set_cons_zero, List.set_cons_succ] at hK
          have e11 : s 11 = .bool false := hS.val_at 11 rfl (by decide) (hN.out 11 rfl)
          simp only [e11] at hK ⊢
          obtain ⟨u1, u2, u3, u4⟩ := (hS.mem.k (i := 2) rfl).four
          go_simp
          exact hK.out _ _ (hS.val rfl (noStore_of rfl) (Below.refl _ _) rfl)
        · intro L s w9 hN hU hi hS K hK
          dsimp only at hK ⊢
          simp only [Act.put, List.setIfInBounds_toArray, List.set_cons_zero, List.set_cons_succ] at hK
          have e17 : s 17 = Value.func (.func 10) #[] #[] := hS.val_at 17 rfl (by decide) (hN.out 17 rfl)
          simp only [e17] at hK ⊢
          have e18 : s 18 = .agg #[.bool n', .slice PA8 xs'.length pc8, .bool m', .slice PB8 ys'.length pd8] := hS.val_at 18 rfl (by decide) (hN.out 18 rfl)
          simp only [e18] at hK ⊢
          have e19 : s 19 = .agg #[.bool n, .slice PA7 xs.length pc7, .bool m, .slice PB7 ys.length pd7] := hS.val_at 19 rfl (by decide) (hN.out 19 rfl)
          simp only [e19] at hK ⊢
          have e11 : s 11 = .bool false := hS.val_at 11 rfl (by decide) (hN.out 11 rfl)
          simp only [e11] at hK ⊢
          go_simp
          go_at_call 10
          refine (mulL4 H4.out (hS.mem.r (i := 2) rfl) (hS.mem.r (i := 3) rfl) (hS.mem.r (i := 4) rfl) (hS.mem.r (i := 5) rfl)).mono ?_
          rintro e9 w10 ⟨⟨A0, c0, B0, d0, rfl, h0, k0⟩, q⟩
          exact hK.out _ _ (hS.val rfl (noStore_of rfl) q ⟨A0, c0, B0, d0, rfl, h0, k0⟩)
        · intro L s w9 hN hU hi hS K hK
          dsimp only at hK ⊢
          simp only [Act.put, List.setIfInBounds_toArray, List.set_cons_zero, List.set_cons_succ] at hK
          have e12 : s 12 = Value.func (.func 12) #[] #[] := hS.val_at 12 rfl (by decide) (hN.out 12 rfl)
          simp only [e12] at hK ⊢
          obtain ⟨A16, c16, B16, d16, e16, h16, k16⟩ := hS.val_at 16 rfl (by decide) (hN.out 16 rfl)
          simp only [e16] at hK ⊢
          obtain ⟨A20, c20, B20, d20, e20, h20, k20⟩ := hS.val_at 20 rfl (by decide) (hN.out 20 rfl)
          simp only [e20] at hK ⊢
          have e11 : s 11 = .bool false := hS.val_at 11 rfl (by decide) (hN.out 11 rfl)
          simp only [e11] at hK ⊢
          go_simp
          go_at_call 12
          refine (sameL4 K2.out h16 k16 h20 k20).mono ?_
          rintro e9 w10 ⟨rfl, q⟩
          exact hK.out _ _ (hS.val rfl (noStore_of rfl) q rfl)
        · intro L s w9 hN hU hi hS K hK
          dsimp only at hK ⊢
          simp only [Act.put, List.setIfInBounds_toArray, List.set_cons_zero, List.set_cons_succ] at hK
          have e21 : s 21 = .bool true := hS.val_at 21 rfl (by decide) (hN.out 21 rfl)
          simp only [e21] at hK ⊢
          have e11 : s 11 = .bool false := hS.val_at 11 rfl (by decide) (hN.out 11 rfl)
          simp only [e11] at hK ⊢
          go_simp
          exact hK.out _ _ (hS.val rfl (noStore_of rfl) (Below.refl _ _) rfl)
        · intro L s w9 hN hU hi hS K hK
          dsimp only at hK ⊢
          simp only [Act.put, List.setIfInBounds_toArray, List.set_cons_zero, List.set_cons_succ] at hK
          have e11 : s 11 = .bool false := hS.val_at 11 rfl (by decide) (hN.out 11 rfl)
          simp only [e11] at hK ⊢
          have e22 : s 22 = .bool false := hS.val_at 22 rfl (by decide) (hN.out 22 rfl)
          simp only [e22] at hK ⊢
          go_simp
          exact hK.out _ _ (hS.val rfl (noStore_of rfl) (Below.refl _ _) rfl)
        · intro L s w9 hN hU hi hS K hK
          dsimp only at hK ⊢
          simp only [Act.put, List.setIfInBounds_toArray, List.set_cons_zero, List.set_cons_succ] at hK
          have e23 : s 23 = .bool false := hS.val_at 23 rfl (by decide) (hN.out 23 rfl)
          simp only [e23] at hK ⊢
          go_simp
          exact hK.out _ _ (hS.val rfl (noStore_of rfl) (Below.refl _ _) rfl)
        · intro L s w9 hN hU hi hS K hK
          dsimp only at hK ⊢
          simp only [Act.put, List.setIfInBounds_toArray, List.set_cons_zero, List.set_cons_succ] at hK
          have e24 : s 24 = .bool false := hS.val_at 24 rfl (by decide) (hN.out 24 rfl)
          simp only [e24] at hK ⊢
          go_simp
          exact hK.out _ _ (hS.val rfl (noStore_of rfl) (Below.refl _ _) rfl)
        · intro L s w9 hN hU hi hS K hK
          dsimp only at hK ⊢
          simp only [Act.put, List.setIfInBounds_toArray, List.set_cons_zero, List.set_cons_succ] at hK
          have e24 : s 24 = .bool false := hS.val_at 24 rfl (by decide) (hN.out 24 rfl)
          simp only [e24] at hK ⊢
          go_simp
          exact hK.out _ _ (hS.val rfl (noStore_of rfl) (Below.refl _ _) rfl)
        · intro L s w9 hN hU hi hS K hK
          dsimp only at hK ⊢
          simp only [Act.put, List.setIfInBounds_toArray, List.set_cons_zero, List.set_cons_succ] at hK
          have e24 : s 24 = .bool false := hS.val_at 24 rfl (by decide) (hN.out 24 rfl)
          simp only [e24] at hK ⊢
          go_simp
          exact hK.out _ _ (hS.val rfl (noStore_of rfl) (Below.refl _ _) rfl)
        · intro L s w9 hN hU hi hS K hK
          dsimp only at hK ⊢
          simp only [Act.put, List.setIfInBounds_toArray, List.set_cons_zero, List.set_cons_succ] at hK
          have e24 : s 24 = .bool false := hS.val_at 24 rfl (by decide) (hN.out 24 rfl)
          simp only [e24] at hK ⊢
          obtain ⟨u1, u2, u3, u4⟩ := (hS.mem.k (i := 2) rfl).four
          go_simp
          exact hK.out _ _ (hS.val rfl (noStore_of rfl) (Below.refl _ _) rfl)
        · intro L s w9 hN hU hi hS K hK
          dsimp only at hK ⊢
          simp only [Act.put, List.setIfInBounds_toArray, List.set_cons_zero, List.set_cons_succ] at hK
          have e24 : s 24 = .bool false := hS.val_at 24 rfl (by decide) (hN.out 24 rfl)
          simp only [e24] at hK ⊢
          obtain ⟨u1, u2, u3, u4⟩ := (hS.mem.k (i := 1) rfl).four
          go_simp
          exact hK.out _ _ (hS.val rfl (noStore_of rfl) (Below.refl _ _) rfl)
        · intro L s w9 hN hU hi hS K hK
          dsimp only at hK ⊢
          simp only [Act.put, List.setIfInBounds_toArray, List.set_cons_zero, List.set_cons_succ] at hK
          have e27 : s 27 = Value.func (.func 8) #[] #[] := hS.val_at 27 rfl (by decide) (hN.out 27 rfl)
          simp only [e27] at hK ⊢
          have e28 : s 28 = .agg #[.bool n, .slice PA7 xs.length pc7, .bool m, .slice PB7 ys.length pd7] := hS.val_at 28 rfl (by decide) (hN.out 28 rfl)
          simp only [e28] at hK ⊢
          have e29 : s 29 = .agg #[.bool n', .slice PA8 xs'.length pc8, .bool m', .slice PB8 ys'.length pd8] := hS.val_at 29 rfl (by decide) (hN.out 29 rfl)
          simp only [e29] at hK ⊢
          have e24 : s 24 = .bool false := hS.val_at 24 rfl (by decide) (hN.out 24 rfl)
          simp only [e24] at hK ⊢
          go_simp
          go_at_call 8
          refine (addL4 H1.out (hS.mem.r (i := 4) rfl) (hS.mem.r (i := 5) rfl) (hS.mem.r (i := 2) rfl) (hS.mem.r (i := 3) rfl)).mono ?_
          rintro e9 w10 ⟨⟨A0, c0, B0, d0, rfl, h0, k0⟩, q⟩
          exact hK.out _ _ (hS.val rfl (noStore_of rfl) q ⟨A0, c0, B0, d0, rfl, h0, k0⟩)
        · intro L s w9 hN hU hi hS K hK
          dsimp only at hK ⊢
          simp only [Act.put, List.setIfInBounds_toArray, List.set_cons_zero, List.set_cons_succ] at hK
          have e24 : s 24 = .bool false := hS.val_at 24 rfl (by decide) (hN.out 24 rfl)
          simp only [e24] at hK ⊢
          obtain ⟨u1, u2, u3, u4⟩ := (hS.mem.k (i := 0) rfl).four
          go_simp
          exact hK.out _ _ (hS.val rfl (noStore_of rfl) (Below.refl _ _) rfl)
        · intro L s w9 hN hU hi hS K hK
          dsimp only at hK ⊢
          simp only [Act.put, List.setIfInBounds_toArray, List.set_cons_zero, List.set_cons_succ] at hK
          have e26 : s 26 = Value.func (.func 8) #[] #[] := hS.val_at 26 rfl (by decide) (hN.out 26 rfl)
          simp only [e26] at hK ⊢
          obtain ⟨A30, c30, B30, d30, e30, h30, k30⟩ := hS.val_at 30 rfl (by decide) (hN.out 30 rfl)
          simp only [e30] at hK ⊢
          have e31 : s 31 = .agg #[.bool n'', .slice PA9 xs''.length pc9, .bool m'', .slice PB9 ys''.length pd9] := hS.val_at 31 rfl (by decide) (hN.out 31 rfl)
          simp only [e31] at hK ⊢
          have e24 : s 24 = .bool false := hS.val_at 24 rfl (by decide) (hN.out 24 rfl)
          simp only [e24] at hK ⊢
          go_simp
          go_at_call 8
          refine (addL4 H5.out h30 k30 (hS.mem.r (i := 0) rfl) (hS.mem.r (i := 1) rfl)).mono ?_
          rintro e9 w10 ⟨⟨A0, c0, B0, d0, rfl, h0, k0⟩, q⟩
          exact hK.out _ _ (hS.val rfl (noStore_of rfl) q ⟨A0, c0, B0, d0, rfl, h0, k0⟩)
        · intro L s w9 hN hU hi hS K hK
          dsimp only at hK ⊢
          simp only [Act.put, List.setIfInBounds_toArray, List.set_cons_zero, List.set_cons_succ] at hK
          have e24 : s 24 = .bool false := hS.val_at 24 rfl (by decide) (hN.out 24 rfl)
          simp only [e24] at hK ⊢
          go_simp
          exact hK.out _ _ (hS.val rfl (noStore_of rfl) (Below.refl _ _) rfl)
        · intro L s w9 hN hU hi hS K hK
          dsimp only at hK ⊢
          simp only [Act.put, List.setIfInBounds_toArray, List.set_cons_zero, List.set_cons_succ] at hK
          have e24 : s 24 = .bool false := hS.val_at 24 rfl (by decide) (hN.out 24 rfl)
          simp only [e24] at hK ⊢
          obtain ⟨u1, u2, u3, u4⟩ := (hS.mem.k (i := 2) rfl).four
          go_simp
          exact hK.out _ _ (hS.val rfl (noStore_of rfl) (Below.refl _ _) rfl)
        · intro L s w9 hN hU hi hS K hK
          dsimp only at hK ⊢
          simp only [Act.put, List.setIfInBounds_toArray, List.set_cons_zero, List.set_cons_succ] at hK
          have e24 : s 24 = .bool false := hS.val_at 24 rfl (by decide) (hN.out 24 rfl)
          simp only [e24] at hK ⊢
          go_simp
          exact hK.out _ _ (hS.val rfl (noStore_of rfl) (Below.refl _ _) rfl)
        · intro L s w9 hN hU hi hS K hK
          dsimp only at hK ⊢
          simp only [Act.put, List.setIfInBounds_toArray, List.set_cons_zero, List.set_cons_succ] at hK
          have e24 : s 24 = .bool false := hS.val_at 24 rfl (by decide) (hN.out 24 rfl)
          simp only [e24] at hK ⊢
          obtain ⟨u1, u2, u3, u4⟩ := (hS.mem.k (i := 1) rfl).four
          go_simp
          exact hK.out _ _ (hS.val rfl (noStore_of rfl) (Below.refl _ _) rfl)
        · intro L s w9 hN hU hi hS K hK
          dsimp only at hK ⊢
          simp only [Act.put, List.setIfInBounds_toArray, List.set_cons_zero, List.set_cons_succ] at hK
          have e24 : s 24 = .bool false := hS.val_at 24 rfl (by decide) (hN.out 24 rfl)
          simp only [e24] at hK ⊢
          obtain ⟨u1, u2, u3, u4⟩ := (hS.mem.k (i := 0) rfl).four
          go_simp
          exact hK.out _ _ (hS.val rfl (noStore_of rfl) (Below.refl _ _) rfl)
        · intro L s w9 hN hU hi hS K hK
          dsimp only at hK ⊢
          simp only [Act.put, List.setIfInBounds_toArray, List.set_cons_zero, List.set_cons_succ] at hK
          have e35 : s 35 = Value.func (.func 8) #[] #[] := hS.val_at 35 rfl (by decide) (hN.out 35 rfl)
          simp only [e35] at hK ⊢
          have e36 : s 36 = .agg #[.bool n', .slice PA8 xs'.length pc8, .bool m', .slice PB8 ys'.length pd8] := hS.val_at 36 rfl (by decide) (hN.out 36 rfl)
          simp only [e36] at hK ⊢
          have e37 : s 37 = .agg #[.bool n'', .slice PA9 xs''.length pc9, .bool m'', .slice PB9 ys''.length pd9] := hS.val_at 37 rfl (by decide) (hN.out 37 rfl)
          simp only [e37] at hK ⊢
          have e24 : s 24 = .bool false := hS.val_at 24 rfl (by decide) (hN.out 24 rfl)
          simp only [e24] at hK ⊢
          go_simp
          go_at_call 8
          refine (addL4 H6.out (hS.mem.r (i := 2) rfl) (hS.mem.r (i := 3) rfl) (hS.mem.r (i := 0) rfl) (hS.mem.r (i := 1) rfl)).mono ?_
          rintro e9 w10 ⟨⟨A0, c0, B0, d0, rfl, h0, k0⟩, q⟩
          exact hK.out _ _ (hS.val rfl (noStore_of rfl) q ⟨A0, c0, B0, d0, rfl, h0, k0⟩)
        · intro L s w9 hN hU hi hS K hK
          dsimp only at hK ⊢
          simp only [Act.put, List.setIfInBounds_toArray, List.set_cons_zero, List.set_cons_succ] at hK
          have e33 : s 33 = Value.func (.func 8) #[] #[] := hS.val_at 33 rfl (by decide) (hN.out 33 rfl)
          simp only [e33] at hK ⊢
          have e34 : s 34 = .agg #[.bool n, .slice PA7 xs.length pc7, .bool m, .slice PB7 ys.length pd7] := hS.val_at 34 rfl (by decide) (hN.out 34 rfl)
          simp only [e34] at hK ⊢
          obtain ⟨A38, c38, B38, d38, e38, h38, k38⟩ := hS.val_at 38 rfl (by decide) (hN.out 38 rfl)
          simp only [e38] at hK ⊢
          have e24 : s 24 = .bool false := hS.val_at 24 rfl (by decide) (hN.out 24 rfl)
          simp only [e24] at hK ⊢
          go_simp
          go_at_call 8
          refine (addL4 H7.out (hS.mem.r (i := 4) rfl) (hS.mem.r (i := 5) rfl) h38 k38).mono ?_
          rintro e9 w10 ⟨⟨A0, c0, B0, d0, rfl, h0, k0⟩, q⟩
          exact hK.out _ _ (hS.val rfl (noStore_of rfl) q ⟨A0, c0, B0, d0, rfl, h0, k0⟩)
        · intro L s w9 hN hU hi hS K hK
          dsimp only at hK ⊢
          simp only [Act.put, List.setIfInBounds_toArray, List.set_cons_zero, List.set_cons_succ] at hK
          have e25 : s 25 = Value.func (.func 12) #[] #[] := hS.val_at 25 rfl (by decide) (hN.out 25 rfl)
          simp only [e25] at hK ⊢
          obtain ⟨A32, c32, B32, d32, e32, h32, k32⟩ := hS.val_at 32 rfl (by decide) (hN.out 32 rfl)
          simp only [e32] at hK ⊢
          obtain ⟨A39, c39, B39, d39, e39, h39, k39⟩ := hS.val_at 39 rfl (by decide) (hN.out 39 rfl)
          simp only [e39] at hK ⊢
          have e24 : s 24 = .bool false := hS.val_at 24 rfl (by decide) (hN.out 24 rfl)
          simp only [e24] at hK ⊢
          go_simp
          go_at_call 12
          refine (sameL4 K3.out h32 k32 h39 k39).mono ?_
          rintro e9 w10 ⟨rfl, q⟩
          exact hK.out _ _ (hS.val rfl (noStore_of rfl) q rfl)
        · intro L s w9 hN hU hi hS K hK
          dsimp only at hK ⊢
          simp only [Act.put, List.setIfInBounds_toArray, List.set_cons_zero, List.set_cons_succ] at hK
          have e40 : s 40 = .bool true := hS.val_at 40 rfl (by decide) (hN.out 40 rfl)
          simp only [e40] at hK ⊢
          have e24 : s 24 = .bool false := hS.val_at 24 rfl (by decide) (hN.out 24 rfl)
          simp only [e24] at hK ⊢
          go_simp
          exact hK.out _ _ (hS.val rfl (noStore_of rfl) (Below.refl _ _) rfl)
        · intro L s w9 hN hU hi hS K hK
          dsimp only at hK ⊢
          simp only [Act.put, List.setIfInBounds_toArray, List.set_cons_zero, List.set_cons_succ] at hK
          have e24 : s 24 = .bool false := hS.val_at 24 rfl (by decide) (hN.out 24 rfl)
          simp only [e24] at hK ⊢
          have e41 : s 41 = .bool false := hS.val_at 41 rfl (by decide) (hN.out 41 rfl)
          simp only [e41] at hK ⊢
          go_simp
          exact hK.out _ _ (hS.val rfl (noStore_of rfl) (Below.refl _ _) rfl)
        · intro L s w9 hN hU hi hS K hK
          dsimp only at hK ⊢
          simp only [Act.put, List.setIfInBounds_toArray, List.set_cons_zero, List.set_cons_succ] at hK
          have e42 : s 42 = .bool false := hS.val_at 42 rfl (by decide) (hN.out 42 rfl)
          simp only [e42] at hK ⊢
          go_simp
          exact hK.out _ _ (hS.val rfl (noStore_of rfl) (Below.refl _ _) rfl)
        · intro L s w9 hN hU hi hS K hK
          dsimp only at hK ⊢
          simp only [Act.put, List.setIfInBounds_toArray, List.set_cons_zero, List.set_cons_succ] at hK
          have e43 : s 43 = .bool false := hS.val_at 43 rfl (by decide) (hN.out 43 rfl)
          simp only [e43] at hK ⊢
          go_simp
          exact hK.out _ _ (hS.val rfl (noStore_of rfl) (Below.refl _ _) rfl)
        · intro L s w9 hN hU hi hS K hK
          dsimp only at hK ⊢
          simp only [Act.put, List.setIfInBounds_toArray, List.set_cons_zero, List.set_cons_succ] at hK
          have e43 : s 43 = .bool false := hS.val_at 43 rfl (by decide) (hN.out 43 rfl)
          simp only [e43] at hK ⊢
          go_simp
          exact hK.out _ _ (hS.val rfl (noStore_of rfl) (Below.refl _ _) rfl)
        · intro L s w9 hN hU hi hS K hK
          dsimp only at hK ⊢
          simp only [Act.put, List.setIfInBounds_toArray, List.set_cons_zero, List.set_cons_succ] at hK
          have e43 : s 43 = .bool false := hS.val_at 43 rfl (by decide) (hN.out 43 rfl)
          simp only [e43] at hK ⊢
          go_simp
          exact hK.out _ _ (hS.val rfl (noStore_of rfl) (Below.refl _ _) rfl)
        · intro L s w9 hN hU hi hS K hK
          dsimp only at hK ⊢
          simp only [Act.put, List.setIfInBounds_toArray, List.set_cons_zero, List.set_cons_succ] at hK
          have e43 : s 43 = .bool false := hS.val_at 43 rfl (by decide) (hN.out 43 rfl)
          simp only [e43] at hK ⊢
          obtain ⟨u1, u2, u3, u4⟩ := (hS.mem.k (i := 2) rfl).four
          go_simp
          exact hK.out _ _ (hS.val rfl (noStore_of rfl) (Below.refl _ _) rfl)
        · intro L s w9 hN hU hi hS K hK
          dsimp only at hK ⊢
          simp only [Act.put, List.setIfInBounds_toArray, List.set_cons_zero, List.set_cons_succ] at hK
          have e43 : s 43 = .bool false := hS.val_at 43 rfl (by decide) (hN.out 43 rfl)
          simp only [e43] at hK ⊢
          obtain ⟨u1, u2, u3, u4⟩ := (hS.mem.k (i := 1) rfl).four
          go_simp
          exact hK.out _ _ (hS.val rfl (noStore_of rfl) (Below.refl _ _) rfl)
        · intro L s w9 hN hU hi hS K hK
          dsimp only at hK ⊢
          simp only [Act.put, List.setIfInBounds_toArray, List.set_cons_zero, List.set_cons_succ] at hK
          have e46 : s 46 = Value.func (.func 10) #[] #[] := hS.val_at 46 rfl (by decide) (hN.out 46 rfl)
          simp only [e46] at hK ⊢
          have e47 : s 47 = .agg #[.bool n, .slice PA7 xs.length pc7, .bool m, .slice PB7 ys.length pd7] := hS.val_at 47 rfl (by decide) (hN.out 47 rfl)
          simp only [e47] at hK ⊢
          have e48 : s 48 = .agg #[.bool n', .slice PA8 xs'.length pc8, .bool m', .slice PB8 ys'.length pd8] := hS.val_at 48 rfl (by decide) (hN.out 48 rfl)
          simp only [e48] at hK ⊢
          have e43 : s 43 = .bool false := hS.val_at 43 rfl (by decide) (hN.out 43 rfl)
          simp only [e43] at hK ⊢
          go_simp
          go_at_call 10
          refine (mulL4 H3.out (hS.mem.r (i := 4) rfl) (hS.mem.r (i := 5) rfl) (hS.mem.r (i := 2) rfl) (hS.mem.r (i := 3) rfl)).mono ?_
          rintro e9 w10 ⟨⟨A0, c0, B0, d0, rfl, h0, k0⟩, q⟩
          exact hK.out _ _ (hS.val rfl (noStore_of rfl) q ⟨A0, c0, B0, d0, rfl, h0, k0⟩)
        · intro L s w9 hN hU hi hS K hK
          dsimp only at hK ⊢
          simp only [Act.put, List.setIfInBounds_toArray, List.set_cons_zero, List.set_cons_succ] at hK
          have e43 : s 43 = .bool false := hS.val_at 43 rfl (by decide) (hN.out 43 rfl)
          simp only [e43] at hK ⊢
          obtain ⟨u1, u2, u3, u4⟩ := (hS.mem.k (i := 0) rfl).four
          go_simp
          exact hK.out _ _ (hS.val rfl (noStore_of rfl) (Below.refl _ _) rfl)
        · intro L s w9 hN hU hi hS K hK
          dsimp only at hK ⊢
          simp only [Act.put, List.setIfInBounds_toArray, List.set_cons_zero, List.set_cons_succ] at hK
          have e45 : s 45 = Value.func (.func 10) #[] #[] := hS.val_at 45 rfl (by decide) (hN.out 45 rfl)
          simp only [e45] at hK ⊢
          obtain ⟨A49, c49, B49, d49, e49, h49, k49⟩ := hS.val_at 49 rfl (by decide) (hN.out 49 rfl)
          simp only [e49] at hK ⊢
          have e50 : s 50 = .agg #[.bool n'', .slice PA9 xs''.length pc9, .bool m'', .slice PB9 ys''.length pd9] := hS.val_at 50 rfl (by decide) (hN.out 50 rfl)
          simp only [e50] at hK ⊢
          have e43 : s 43 = .bool false := hS.val_at 43 rfl (by decide) (hN.out 43 rfl)
          simp only [e43] at hK ⊢
          go_simp
          go_at_call 10
          refine (mulL4 H8.out h49 k49 (hS.mem.r (i := 0) rfl) (hS.mem.r (i := 1) rfl)).mono ?_
          rintro e9 w10 ⟨⟨A0, c0, B0, d0, rfl, h0, k0⟩, q⟩
          exact hK.out _ _ (hS.val rfl (noStore_of rfl) q ⟨A0, c0, B0, d0, rfl, h0, k0⟩)
        · intro L s w9 hN hU hi hS K hK
          dsimp only at hK ⊢
          simp only [Act.put, List.setIfInBounds_toArray, List.set_cons_zero, List.set_cons_succ] at hK
          have e43 : s 43 = .bool false := hS.val_at 43 rfl (by decide) (hN.out 43 rfl)
          simp only [e43] at hK ⊢
          go_simp
          exact hK.out _ _ (hS.val rfl (noStore_of rfl) (Below.refl _ _) rfl)
        · intro L s w9 hN hU hi hS K hK
          dsimp only at hK ⊢
          simp only [Act.put, List.setIfInBounds_toArray, List.set_cons_zero, List.set_cons_succ] at hK
          have e43 : s 43 = .bool false := hS.val_at 43 rfl (by decide) (hN.out 43 rfl)
          simp only [e43] at hK ⊢
          obtain ⟨u1, u2, u3, u4⟩ := (hS.mem.k (i := 2) rfl).four
          go_simp
          exact hK.out _ _ (hS.val rfl (noStore_of rfl) (Below.refl _ _) rfl)
        · intro L s w9 hN hU hi hS K hK
          dsimp only at hK ⊢
          simp only [Act.put, List.setIfInBounds_toArray, List.set_cons_zero, List.set_cons_succ] at hK
          have e43 : s 43 = .bool false := hS.val_at 43 rfl (by decide) (hN.out 43 rfl)
          simp only [e43] at hK ⊢
          go_simp
          exact hK.out _ _ (hS.val rfl (noStore_of rfl) (Below.refl _ _) rfl)
        · intro L s w9 hN hU hi hS K hK
          dsimp only at hK ⊢
          simp only [Act.put, List.setIfInBounds_toArray, List.set_cons_zero, List.set_cons_succ] at hK
          have e43 : s 43 = .bool false := hS.val_at 43 rfl (by decide) (hN.out 43 rfl)
          simp only [e43] at hK ⊢
          obtain ⟨u1, u2, u3, u4⟩ := (hS.mem.k (i := 1) rfl).four
          go_simp
          exact hK.out _ _ (hS.val rfl (noStore_of rfl) (Below.refl _ _) rfl)
        · intro L s w9 hN hU hi hS K hK
          dsimp only at hK ⊢
          simp only [Act.put, List.setIfInBounds_toArray, List.set_cons_zero, List.set_cons_succ] at hK
          have e43 : s 43 = .bool false := hS.val_at 43 rfl (by decide) (hN.out 43 rfl)
          simp only [e43] at hK ⊢
          obtain ⟨u1, u2, u3, u4⟩ := (hS.mem.k (i := 0) rfl).four
          go_simp
          exact hK.out _ _ (hS.val rfl (noStore_of rfl) (Below.refl _ _) rfl)
        · intro L s w9 hN hU hi hS K hK
          dsimp only at hK ⊢
          simp only [Act.put, List.setIfInBounds_toArray, List.set_cons_zero, List.set_cons_succ] at hK
          have e54 : s 54 = Value.func (.func 10) #[] #[] := hS.val_at 54 rfl (by decide) (hN.out 54 rfl)
          simp only [e54] at hK ⊢
          have e55 : s 55 = .agg #[.bool n', .slice PA8 xs'.length pc8, .bool m', .slice PB8 ys'.length pd8] := hS.val_at 55 rfl (by decide) (hN.out 55 rfl)
          simp only [e55] at hK ⊢
          have e56 : s 56 = .agg #[.bool n'', .slice PA9 xs''.length pc9, .bool m'', .slice PB9 ys''.length pd9] := hS.val_at 56 rfl (by decide) (hN.out 56 rfl)
          simp only [e56] at hK ⊢
          have e43 : s 43 = .bool false := hS.val_at 43 rfl (by decide) (hN.out 43 rfl)
          simp only [e43] at hK ⊢
          go_simp
          go_at_call 10
          refine (mulL4 H9.out (hS.mem.r (i := 2) rfl) (hS.mem.r (i := 3) rfl) (hS.mem.r (i := 0) rfl) (hS.mem.r (i := 1) rfl)).mono ?_
          rintro e9 w10 ⟨⟨A0, c0, B0, d0, rfl, h0, k0⟩, q⟩
          exact hK.out _ _ (hS.val rfl (noStore_of rfl) q ⟨A0, c0, B0, d0, rfl, h0, k0⟩)
        · intro L s w9 hN hU hi hS K hK
          dsimp only at hK ⊢
          simp only [Act.put, List.setIfInBounds_toArray, List.set_cons_zero, List.set_cons_succ] at hK
          have e52 : s 52 = Value.func (.func 10) #[] #[] := hS.val_at 52 rfl (by decide) (hN.out 52 rfl)
          simp only [e52] at hK ⊢
          have e53 : s 53 = .agg #[.bool n, .slice PA7 xs.length pc7, .bool m, .slice PB7 ys.length pd7] := hS.val_at 53 rfl (by decide) (hN.out 53 rfl)
          simp only [e53] at hK ⊢
          obtain ⟨A57, c57, B57, d57, e57, h57, k57⟩ := hS.val_at 57 rfl (by decide) (hN.out 57 rfl)
          simp only [e57] at hK ⊢
          have e43 : s 43 = .bool false := hS.val_at 43 rfl (by decide) (hN.out 43 rfl)
          simp only [e43] at hK ⊢
          go_simp
          go_at_call 10
          refine (mulL4 H10.out (hS.mem.r (i := 4) rfl) (hS.mem.r (i := 5) rfl) h57 k57).mono ?_
          rintro e9 w10 ⟨⟨A0, c0, B0, d0, rfl, h0, k0⟩, q⟩
          exact hK.out _ _ (hS.val rfl (noStore_of rfl) q ⟨A0, c0, B0, d0, rfl, h0, k0⟩)
        · intro L s w9 hN hU hi hS K hK
          dsimp only at hK ⊢
          simp only [Act.put, List.setIfInBounds_toArray, List.set_cons_zero, List.set_cons_succ] at hK
          have e44 : s 44 = Value.func (.func 12) #[] #[] := hS.val_at 44 rfl (by decide) (hN.out 44 rfl)
          simp only [e44] at hK ⊢
          obtain ⟨A51, c51, B51, d51, e51, h51, k51⟩ := hS.val_at 51 rfl (by decide) (hN.out 51 rfl)
          simp only [e51] at hK ⊢
          obtain ⟨A58, c58, B58, d58, e58, h58, k58⟩ := hS.val_at 58 rfl (by decide) (hN.out 58 rfl)
          simp only [e58] at hK ⊢
          have e43 : s 43 = .bool false := hS.val_at 43 rfl (by decide) (hN.out 43 rfl)
          simp only [e43] at hK ⊢
          go_simp
          go_at_call 12
          refine (sameL4 K4.out h51 k51 h58 k58).mono ?_
          rintro e9 w10 ⟨rfl, q⟩
          exact hK.out _ _ (hS.val rfl (noStore_of rfl) q rfl)
        · intro L s w9 hN hU hi hS K hK
          dsimp only at hK ⊢
          simp only [Act.put, List.setIfInBounds_toArray, List.set_cons_zero, List.set_cons_succ] at hK
          have e59 : s 59 = .bool true := hS.val_at 59 rfl (by decide) (hN.out 59 rfl)
          simp only [e59] at hK ⊢
          have e43 : s 43 = .bool false := hS.val_at 43 rfl (by decide) (hN.out 43 rfl)
          simp only [e43] at hK ⊢
          go_simp
          exact hK.out _ _ (hS.val rfl (noStore_of rfl) (Below.refl _ _) rfl)
        · intro L s w9 hN hU hi hS K hK
          dsimp only at hK ⊢
          simp only [Act.put, List.setIfInBounds_toArray, List.set_cons_zero, List.set_cons_succ] at hK
          have e43 : s 43 = .bool false := hS.val_at 43 rfl (by decide) (hN.out 43 rfl)
          simp only [e43] at hK ⊢
          have e60 : s 60 = .bool false := hS.val_at 60 rfl (by decide) (hN.out 60 rfl)
          simp only [e60] at hK ⊢
          go_simp
          exact hK.out _ _ (hS.val rfl (noStore_of rfl) (Below.refl _ _) rfl)
        · intro L s w9 hN hU hi hS K hK
          dsimp only at hK ⊢
          simp only [Act.put, List.setIfInBounds_toArray, List.set_cons_zero, List.set_cons_succ] at hK
          have e61 : s 61 = .bool false := hS.val_at 61 rfl (by decide) (hN.out 61 rfl)
          simp only [e61] at hK ⊢
          go_simp
          exact hK.out _ _ (hS.val rfl (noStore_of rfl) (Below.refl _ _) rfl)
        · intro L s w9 hN hU hi hS K hK
          dsimp only at hK ⊢
          simp only [Act.put, List.setIfInBounds_toArray, List.set_cons_zero, List.set_cons_succ] at hK
          have e62 : s 62 = .bool false := hS.val_at 62 rfl (by decide) (hN.out 62 rfl)
          simp only [e62] at hK ⊢
          go_simp
          exact hK.out _ _ (hS.val rfl (noStore_of rfl) (Below.refl _ _) rfl)
        · intro L s w9 hN hU hi hS K hK
          dsimp only at hK ⊢
          simp only [Act.put, List.setIfInBounds_toArray, List.set_cons_zero, List.set_cons_succ] at hK
          have e62 : s 62 = .bool false := hS.val_at 62 rfl (by decide) (hN.out 62 rfl)
          simp only [e62] at hK ⊢
          go_simp
          exact hK.out _ _ (hS.val rfl (noStore_of rfl) (Below.refl _ _) rfl)
        · intro L s w9 hN hU hi hS K hK
          dsimp only at hK ⊢
          simp only [Act.put, List.setIfInBounds_toArray, List.set_cons_zero, List.set_cons_succ] at hK
          have e62 : s 62 = .bool false := hS.val_at 62 rfl (by decide) (hN.out 62 rfl)
          simp only [e62] at hK ⊢
          go_simp
          exact hK.out _ _ (hS.val rfl (noStore_of rfl) (Below.refl _ _) rfl)
        · intro L s w9 hN hU hi hS K hK
          dsimp only at hK ⊢
          simp only [Act.put, List.setIfInBounds_toArray, List.set_cons_zero, List.set_cons_succ] at hK
          have e62 : s 62 = .bool false := hS.val_at 62 rfl (by decide) (hN.out 62 rfl)
          simp only [e62] at hK ⊢
          obtain ⟨u1, u2, u3, u4⟩ := (hS.mem.k (i := 2) rfl).four
          go_simp
          exact hK.out _ _ (hS.val rfl (noStore_of rfl) (Below.refl _ _) rfl)
        · intro L s w9 hN hU hi hS K hK
          dsimp only at hK ⊢
          simp only [Act.put, List.setIfInBounds_toArray, List.set_cons_zero, List.set_cons_succ] at hK
          have e62 : s 62 = .bool false := hS.val_at 62 rfl (by decide) (hN.out 62 rfl)
          simp only [e62] at hK ⊢
          obtain ⟨u1, u2, u3, u4⟩ := (hS.mem.k (i := 1) rfl).four
          go_simp
          exact hK.out _ _ (hS.val rfl (noStore_of rfl) (Below.refl _ _) rfl)
        · intro L s w9 hN hU hi hS K hK
          dsimp only at hK ⊢
          simp only [Act.put, List.setIfInBounds_toArray, List.set_cons_zero, List.set_cons_succ] at hK
          have e65 : s 65 = Value.func (.func 8) #[] #[] := hS.val_at 65 rfl (by decide) (hN.out 65 rfl)
          simp only [e65] at hK ⊢
          have e66 : s 66 = .agg #[.bool n, .slice PA7 xs.length pc7, .bool m, .slice PB7 ys.length pd7] := hS.val_at 66 rfl (by decide) (hN.out 66 rfl)
          simp only [e66] at hK ⊢
          have e67 : s 67 = .agg #[.bool n', .slice PA8 xs'.length pc8, .bool m', .slice PB8 ys'.length pd8] := hS.val_at 67 rfl (by decide) (hN.out 67 rfl)
          simp only [e67] at hK ⊢
          have e62 : s 62 = .bool false := hS.val_at 62 rfl (by decide) (hN.out 62 rfl)
          simp only [e62] at hK ⊢
          go_simp
          go_at_call 8
          refine (addL4 H1.out (hS.mem.r (i := 4) rfl) (hS.mem.r (i := 5) rfl) (hS.mem.r (i := 2) rfl) (hS.mem.r (i := 3) rfl)).mono ?_
          rintro e9 w10 ⟨⟨A0, c0, B0, d0, rfl, h0, k0⟩, q⟩
          exact hK.out _ _ (hS.val rfl (noStore_of rfl) q ⟨A0, c0, B0, d0, rfl, h0, k0⟩)
        · intro L s w9 hN hU hi hS K hK
          dsimp only at hK ⊢
          simp only [Act.put, List.setIfInBounds_toArray, List.set_cons_zero, List.set_cons_succ] at hK
          have e62 : s 62 = .bool false := hS.val_at 62 rfl (by decide) (hN.out 62 rfl)
          simp only [e62] at hK ⊢
          obtain ⟨u1, u2, u3, u4⟩ := (hS.mem.k (i := 0) rfl).four
          go_simp
          exact hK.out _ _ (hS.val rfl (noStore_of rfl) (Below.refl _ _) rfl)
        · intro L s w9 hN hU hi hS K hK
          dsimp only at hK ⊢
          simp only [Act.put, List.setIfInBounds_toArray, List.set_cons_zero, List.set_cons_succ] at hK
          have e64 : s 64 = Value.func (.func 10) #[] #[] := hS.val_at 64 rfl (by decide) (hN.out 64 rfl)
          simp only [e64] at hK ⊢
          obtain ⟨A68, c68, B68, d68, e68, h68, k68⟩ := hS.val_at 68 rfl (by decide) (hN.out 68 rfl)
          simp only [e68] at hK ⊢
          have e69 : s 69 = .agg #[.bool n'', .slice PA9 xs''.length pc9, .bool m'', .slice PB9 ys''.length pd9] := hS.val_at 69 rfl (by decide) (hN.out 69 rfl)
          simp only [e69] at hK ⊢
          have e62 : s 62 = .bool false := hS.val_at 62 rfl (by decide) (hN.out 62 rfl)
          simp only [e62] at hK ⊢
          go_simp
          go_at_call 10
          refine (mulL4 H11.out h68 k68 (hS.mem.r (i := 0) rfl) (hS.mem.r (i := 1) rfl)).mono ?_
          rintro e9 w10 ⟨⟨A0, c0, B0, d0, rfl, h0, k0⟩, q⟩
          exact hK.out _ _ (hS.val rfl (noStore_of rfl) q ⟨A0, c0, B0, d0, rfl, h0, k0⟩)
        · intro L s w9 hN hU hi hS K hK
          dsimp only at hK ⊢
          simp only [Act.put, List.setIfInBounds_toArray, List.set_cons_zero, List.set_cons_succ] at hK
          have e62 : s 62 = .bool false := hS.val_at 62 rfl (by decide) (hN.out 62 rfl)
          simp only [e62] at hK ⊢
          go_simp
          exact hK.out _ _ (hS.val rfl (noStore_of rfl) (Below.refl _ _) rfl)
        · intro L s w9 hN hU hi hS K hK
          dsimp only at hK ⊢
          simp only [Act.put, List.setIfInBounds_toArray, List.set_cons_zero, List.set_cons_succ] at hK
          have e62 : s 62 = .bool false := hS.val_at 62 rfl (by decide) (hN.out 62 rfl)
          simp only [e62] at hK ⊢
          go_simp
          exact hK.out _ _ (hS.val rfl (noStore_of rfl) (Below.refl _ _) rfl)
        · intro L s w9 hN hU hi hS K hK
          dsimp only at hK ⊢
          simp only [Act.put, List.setIfInBounds_toArray, List.set_cons_zero, List.set_cons_succ] at hK
          have e62 : s 62 = .bool false := hS.val_at 62 rfl (by decide) (hN.out 62 rfl)
          simp only [e62] at hK ⊢
          obtain ⟨u1, u2, u3, u4⟩ := (hS.mem.k (i := 2) rfl).four
          go_simp
          exact hK.out _ _ (hS.val rfl (noStore_of rfl) (Below.refl _ _) rfl)
        · intro L s w9 hN hU hi hS K hK
          dsimp only at hK ⊢
          simp only [Act.put, List.setIfInBounds_toArray, List.set_cons_zero, List.set_cons_succ] at hK
          have e62 : s 62 = .bool false := hS.val_at 62 rfl (by decide) (hN.out 62 rfl)
          simp only [e62] at hK ⊢
          obtain ⟨u1, u2, u3, u4⟩ := (hS.mem.k (i := 0) rfl).four
          go_simp
          exact hK.out _ _ (hS.val rfl (noStore_of rfl) (Below.refl _ _) rfl)
        · intro L s w9 hN hU hi hS K hK
          dsimp only at hK ⊢
          simp only [Act.put, List.setIfInBounds_toArray, List.set_cons_zero, List.set_cons_succ] at hK
          have e72 : s 72 = Value.func (.func 10) #[] #[] := hS.val_at 72 rfl (by decide) (hN.out 72 rfl)
          simp only [e72] at hK ⊢
          have e73 : s 73 = .agg #[.bool n, .slice PA7 xs.length pc7, .bool m, .slice PB7 ys.length pd7] := hS.val_at 73 rfl (by decide) (hN.out 73 rfl)
          simp only [e73] at hK ⊢
          have e74 : s 74 = .agg #[.bool n'', .slice PA9 xs''.length pc9, .bool m'', .slice PB9 ys''.length pd9] := hS.val_at 74 rfl (by decide) (hN.out 74 rfl)
          simp only [e74] at hK ⊢
          have e62 : s 62 = .bool false := hS.val_at 62 rfl (by decide) (hN.out 62 rfl)
          simp only [e62] at hK ⊢
          go_simp
          go_at_call 10
          refine (mulL4 H12.out (hS.mem.r (i := 4) rfl) (hS.mem.r (i := 5) rfl) (hS.mem.r (i := 0) rfl) (hS.mem.r (i := 1) rfl)).mono ?_
          rintro e9 w10 ⟨⟨A0, c0, B0, d0, rfl, h0, k0⟩, q⟩
          exact hK.out _ _ (hS.val rfl (noStore_of rfl) q ⟨A0, c0, B0, d0, rfl, h0, k0⟩)
        · intro L s w9 hN hU hi hS K hK
          dsimp only at hK ⊢
          simp only [Act.put, List.setIfInBounds_toArray, List.set_cons_zero, List.set_cons_succ] at hK
          have e62 : s 62 = .bool false := hS.val_at 62 rfl (by decide) (hN.out 62 rfl)
          simp only [e62] at hK ⊢
          go_simp
          exact hK.out _ _ (hS.val rfl (noStore_of rfl) (Below.refl _ _) rfl)
        · intro L s w9 hN hU hi hS K hK
          dsimp only at hK ⊢
          simp only [Act.put, List.setIfInBounds_toArray, List.set_cons_zero, List.set_cons_succ] at hK
          have e62 : s 62 = .bool false := hS.val_at 62 rfl (by decide) (hN.out 62 rfl)
          simp only [e62] at hK ⊢
          obtain ⟨u1, u2, u3, u4⟩ := (hS.mem.k (i := 1) rfl).four
          go_simp
          exact hK.out _ _ (hS.val rfl (noStore_of rfl) (Below.refl _ _) rfl)
        · intro L s w9 hN hU hi hS K hK
          dsimp only at hK ⊢
          simp only [Act.put, List.setIfInBounds_toArray, List.set_cons_zero, List.set_cons_succ] at hK
          have e62 : s 62 = .bool false := hS.val_at 62 rfl (by decide) (hN.out 62 rfl)
          simp only [e62] at hK ⊢
          obtain ⟨u1, u2, u3, u4⟩ := (hS.mem.k (i := 0) rfl).four
          go_simp
          exact hK.out _ _ (hS.val rfl (noStore_of rfl) (Below.refl _ _) rfl)
        · intro L s w9 hN hU hi hS K hK
          dsimp only at hK ⊢
          simp only [Act.put, List.setIfInBounds_toArray, List.set_cons_zero, List.set_cons_succ] at hK
          have e76 : s 76 = Value.func (.func 10) #[] #[] := hS.val_at 76 rfl (by decide) (hN.out 76 rfl)
          simp only [e76] at hK ⊢
          have e77 : s 77 = .agg #[.bool n', .slice PA8 xs'.length pc8, .bool m', .slice PB8 ys'.length pd8] := hS.val_at 77 rfl (by decide) (hN.out 77 rfl)
          simp only [e77] at hK ⊢
          have e78 : s 78 = .agg #[.bool n'', .slice PA9 xs''.length pc9, .bool m'', .slice PB9 ys''.length pd9] := hS.val_at 78 rfl (by decide) (hN.out 78 rfl)
          simp only [e78] at hK ⊢
          have e62 : s 62 = .bool false := hS.val_at 62 rfl (by decide) (hN.out 62 rfl)
          simp only [e62] at hK ⊢
          go_simp
          go_at_call 10
          refine (mulL4 H9.out (hS.mem.r (i := 2) rfl) (hS.mem.r (i := 3) rfl) (hS.mem.r (i := 0) rfl) (hS.mem.r (i := 1) rfl)).mono ?_
          rintro e9 w10 ⟨⟨A0, c0, B0, d0, rfl, h0, k0⟩, q⟩
          exact hK.out _ _ (hS.val rfl (noStore_of rfl) q ⟨A0, c0, B0, d0, rfl, h0, k0⟩)
        · intro L s w9 hN hU hi hS K hK
          dsimp only at hK ⊢
          simp only [Act.put, List.setIfInBounds_toArray, List.set_cons_zero, List.set_cons_succ] at hK
          have e71 : s 71 = Value.func (.func 8) #[] #[] := hS.val_at 71 rfl (by decide) (hN.out 71 rfl)
          simp only [e71] at hK ⊢
          obtain ⟨A75, c75, B75, d75, e75, h75, k75⟩ := hS.val_at 75 rfl (by decide) (hN.out 75 rfl)
          simp only [e75] at hK ⊢
          obtain ⟨A79, c79, B79, d79, e79, h79, k79⟩ := hS.val_at 79 rfl (by decide) (hN.out 79 rfl)
          simp only [e79] at hK ⊢
          have e62 : s 62 = .bool false := hS.val_at 62 rfl (by decide) (hN.out 62 rfl)
          simp only [e62] at hK ⊢
          go_simp
          go_at_call 8
          refine (addL4 H13.out h75 k75 h79 k79).mono ?_
          rintro e9 w10 ⟨⟨A0, c0, B0, d0, rfl, h0, k0⟩, q⟩
          exact hK.out _ _ (hS.val rfl (noStore_of rfl) q ⟨A0, c0, B0, d0, rfl, h0, k0⟩)
        · intro L s w9 hN hU hi hS K hK
          dsimp only at hK ⊢
          simp only [Act.put, List.setIfInBounds_toArray, List.set_cons_zero, List.set_cons_succ] at hK
          have e63 : s 63 = Value.func (.func 12) #[] #[] := hS.val_at 63 rfl (by decide) (hN.out 63 rfl)
          simp only [e63] at hK ⊢
          obtain ⟨A70, c70, B70, d70, e70, h70, k70⟩ := hS.val_at 70 rfl (by decide) (hN.out 70 rfl)
          simp only [e70] at hK ⊢
          obtain ⟨A80, c80, B80, d80, e80, h80, k80⟩ := hS.val_at 80 rfl (by decide) (hN.out 80 rfl)
          simp only [e80] at hK ⊢
          have e62 : s 62 = .bool false := hS.val_at 62 rfl (by decide) (hN.out 62 rfl)
          simp only [e62] at hK ⊢
          go_simp
          go_at_call 12
          refine (sameL4 K5.out h70 k70 h80 k80).mono ?_
          rintro e9 w10 ⟨rfl, q⟩
          exact hK.out _ _ (hS.val rfl (noStore_of rfl) q rfl)
        · intro L s w9 hN hU hi hS K hK
          dsimp only at hK ⊢
          simp only [Act.put, List.setIfInBounds_toArray, List.set_cons_zero, List.set_cons_succ] at hK
          have e81 : s 81 = .bool true := hS.val_at 81 rfl (by decide) (hN.out 81 rfl)
          simp only [e81] at hK ⊢
          have e62 : s 62 = .bool false := hS.val_at 62 rfl (by decide) (hN.out 62 rfl)
          simp only [e62] at hK ⊢
          go_simp
          exact hK.out _ _ (hS.val rfl (noStore_of rfl) (Below.refl _ _) rfl)
        · intro L s w9 hN hU hi hS K hK
          dsimp only at hK ⊢
          simp only [Act.put, List.setIfInBounds_toArray, List.set_cons_zero, List.set_cons_succ] at hK
          have e62 : s 62 = .bool false := hS.val_at 62 rfl (by decide) (hN.out 62 rfl)
          simp only [e62] at hK ⊢
          have e82 : s 82 = .bool false := hS.val_at 82 rfl (by decide) (hN.out 82 rfl)
          simp only [e82] at hK ⊢
          go_simp
          exact hK.out _ _ (hS.val rfl (noStore_of rfl) (Below.refl _ _) rfl)
      intro L s w9 hall hS
      have e83 : s 83 = .bool false := hS.val_at 83 rfl (by decide) (hall 83 (by decide))
      go_wp2_with fail
      go_meet
      first | exact ⟨rfl, rfl, rfl, hS.mem⟩ | exact ⟨rfl, rfl, e83, hS.mem⟩
    case rest =>
      clear M
      obtain ⟨rfl, rfl, rfl, M⟩ := hcut
      obtain ⟨v1, v2, v3, v4⟩ := (M.k (i := 2) rfl).four
      obtain ⟨v5, v6, v7, v8⟩ := (M.k (i := 1) rfl).four
      rcases HD.out with ⟨hx, hd⟩ | ⟨hx, z1, z2, z3, z4, hd, hm⟩
      · subst hx
        have HQ : Hid (qdivR n xs m ys n' [] m' ys' = (false, [], false, [], 2)) := hd
        clear hd
        go_wp2_with fail
        refine (qdiv_eq HQ.out (M.r (i := 4) rfl) (M.r (i := 5) rfl) (M.r (i := 2) rfl) (M.r (i := 3) rfl)).mono ?_
        rintro e w13 ⟨⟨A13, c13, B13, d13, rfl, h, k⟩, q⟩
        replace M := (M.below q).new 32 #[.bool false, .slice A13 0 c13, .bool false, .slice B13 0 d13]
        clear q h k v1 v2 v3 v4 v5 v6 v7 v8
        obtain ⟨v1, v2, v3, v4⟩ := (M.k (i := 4) rfl).four
        go_wp2
        go_ret
        exact ⟨rfl, M.bel⟩
      · have HQ := Lib.hid hd
        have HM := Lib.hid hm
        have d1 : ((xs'.length : Int) == 0) = false := by simp; exact hx
        clear hd hm
        go_wp2_with fail
        refine (qdiv_eq HQ.out (M.r (i := 4) rfl) (M.r (i := 5) rfl) (M.r (i := 2) rfl) (M.r (i := 3) rfl)).mono ?_
        rintro e w13 ⟨⟨A13, c13, B13, d13, rfl, h, k⟩, q⟩
        replace M := (((M.below q).addR k).addR h).new 32 #[.bool z1, .slice A13 z2.length c13, .bool z3, .slice B13 z4.length d13]
        clear q h k v1 v2 v3 v4 v5 v6 v7 v8
        obtain ⟨v1, v2, v3, v4⟩ := (M.k (i := 4) rfl).four
        go_upto_region 14 with fail
        generalize hw13 : w13.heap.size = g13 at *
        generalize w13.alloc (.cells #[.bool z1, .slice A13 z2.length c13, .bool z3, .slice B13 z4.length d13] 32) = V at *
        refine region_st (n := 12) (frame := ?frame4) (fun jK => [.val (.fix (.int .i64 0)), .val (.fix (.bool true)), .val (.fix (.bool true)), .val (.fix (Value.func (.func 12) #[] #[])), .val (.fix (Value.func (.func 10) #[] #[])), .val (.fix (.agg #[.bool z1, .slice A13 z2.length c13, .bool z3, .slice B13 z4.length d13])), .val (.fix (.agg #[.bool n', .slice PA8 xs'.length pc8, .bool m', .slice PB8 ys'.length pd8])), .val (.rat (n) (xs) (m) (ys)), .val (.fix (.agg #[.bool n, .slice PA7 xs.length pc7, .bool m, .slice PB7 ys.length pd7])), .val (.fix (.bool true)), .val (.fix (.bool true)), .val (.fix (.bool true))].getD jK .none) [] (by kernel_rfl) (by kernel_rfl) (by kernel_rfl) rfl M (fun _ h => by cases h) (fun _ h => by cases h) ?_ ?_ ?_
        case refine_1 =>
          intro s
          simp only [fr, Act.put, List.append_eq, List.cons_append, List.nil_append, List.setIfInBounds_toArray, List.set_cons_zero, List.set_cons_succ, Nat.reduceAdd]
          rfl
        case refine_2 =>
          refine Steps.cons 0 (j := 1) rfl ?_ (Steps.cons 1 (j := 2) rfl ?_ (Steps.cons 2 (j := 3) rfl ?_ (Steps.cons 3 (j := 4) rfl ?_ (Steps.cons 4 (j := 5) rfl ?_ (Steps.cons 5 (j := 6) rfl ?_ (Steps.cons 6 (j := 7) rfl ?_ (Steps.cons 7 (j := 8) rfl ?_ (Steps.cons 8 (j := 9) rfl ?_ (Steps.cons 9 (j := 10) rfl ?_ (Steps.cons 10 (j := 11) rfl ?_ (Steps.cons 11 (j := 12) rfl ?_ Steps.nil)))))))))))
          · intro L s w9 hN hU hi hS K hK
            dsimp only at hK ⊢
            simp only [Act.put, List.setIfInBounds_toArray, List.set_cons_zero, List.set_cons_succ] at hK
            go_simp
            exact hK.out _ _ (hS.val rfl (noStore_of rfl) (Below.refl _ _) rfl)
          · intro L s w9 hN hU hi hS K hK
            dsimp only at hK ⊢
            simp only [Act.put, List.setIfInBounds_toArray, List.set_cons_zero, List.set_cons_succ] at hK
            have e0 : s 0 = .int .i64 0 := hS.val_at 0 rfl (by decide) (hN.out 0 rfl)
            simp only [e0] at hK ⊢
            go_simp
            exact hK.out _ _ (hS.val rfl (noStore_of rfl) (Below.refl _ _) rfl)
          · intro L s w9 hN hU hi hS K hK
            dsimp only at hK ⊢
            simp only [Act.put, List.setIfInBounds_toArray, List.set_cons_zero, List.set_cons_succ] at hK
            have e1 : s 1 = .bool true := hS.val_at 1 rfl (by decide) (hN.out 1 rfl)
            simp only [e1] at hK ⊢
            go_simp
            exact hK.out _ _ (hS.val rfl (noStore_of rfl) (Below.refl _ _) rfl)
          · intro L s w9 hN hU hi hS K hK
            dsimp only at hK ⊢
            simp only [Act.put, List.setIfInBounds_toArray, List.set_cons_zero, List.set_cons_succ] at hK
            have e2 : s 2 = .bool true := hS.val_at 2 rfl (by decide) (hN.out 2 rfl)
            simp only [e2] at hK ⊢
            go_simp
            exact hK.out _ _ (hS.val rfl (noStore_of rfl) (Below.refl _ _) rfl)
          · intro L s w9 hN hU hi hS K hK
            dsimp only at hK ⊢
            simp only [Act.put, List.setIfInBounds_toArray, List.set_cons_zero, List.set_cons_succ] at hK
            have e2 : s 2 = .bool true := hS.val_at 2 rfl (by decide) (hN.out 2 rfl)
            simp only [e2] at hK ⊢
            go_simp
            exact hK.out _ _ (hS.val rfl (noStore_of rfl) (Below.refl _ _) rfl)
          · intro L s w9 hN hU hi hS K hK
            dsimp only at hK ⊢
            simp only [Act.put, List.setIfInBounds_toArray, List.set_cons_zero, List.set_cons_succ] at hK
            have e2 : s 2 = .bool true := hS.val_at 2 rfl (by decide) (hN.out 2 rfl)
            simp only [e2] at hK ⊢
            obtain ⟨u1, u2, u3, u4⟩ := (hS.mem.k (i := 0) rfl).four
            go_simp
            exact hK.out _ _ (hS.val rfl (noStore_of rfl) (Below.refl _ _) rfl)
          · intro L s w9 hN hU hi hS K hK
            dsimp only at hK ⊢
            simp only [Act.put, List.setIfInBounds_toArray, List.set_cons_zero, List.set_cons_succ] at hK
            have e2 : s 2 = .bool true := hS.val_at 2 rfl (by decide) (hN.out 2 rfl)
            simp only [e2] at hK ⊢
            obtain ⟨u1, u2, u3, u4⟩ := (hS.mem.k (i := 2) rfl).four
            go_simp
            exact hK.out _ _ (hS.val rfl (noStore_of rfl) (Below.refl _ _) rfl)
          · intro L s w9 hN hU hi hS K hK
            dsimp only at hK ⊢
            simp only [Act.put, List.setIfInBounds_toArray, List.set_cons_zero, List.set_cons_succ] at hK
            have e4 : s 4 = Value.func (.func 10) #[] #[] := hS.val_at 4 rfl (by decide) (hN.out 4 rfl)
            simp only [e4] at hK ⊢
            have e5 : s 5 = .agg #[.bool z1, .slice A13 z2.length c13, .bool z3, .slice B13 z4.length d13] := hS.val_at 5 rfl (by decide) (hN.out 5 rfl)
            simp only [e5] at hK ⊢
            have e6 : s 6 = .agg #[.bool n', .slice PA8 xs'.length pc8, .bool m', .slice PB8 ys'.length pd8] := hS.val_at 6 rfl (by decide) (hN.out 6 rfl)
            simp only [e6] at hK ⊢
            have e2 : s 2 = .bool true := hS.val_at 2 rfl (by decide) (hN.out 2 rfl)
            simp only [e2] at hK ⊢
            go_simp
            go_at_call 10
            refine (mulL4 HM.out (hS.mem.r (i := 0) rfl) (hS.mem.r (i := 1) rfl) (hS.mem.r (i := 4) rfl) (hS.mem.r (i := 5) rfl)).mono ?_
            rintro e9 w10 ⟨⟨A0, c0, B0, d0, rfl, h0, k0⟩, q⟩
            exact hK.out _ _ (hS.val rfl (noStore_of rfl) q ⟨A0, c0, B0, d0, rfl, h0, k0⟩)
          · intro L s w9 hN hU hi hS K hK
            dsimp only at hK ⊢
            simp only [Act.put, List.setIfInBounds_toArray, List.set_cons_zero, List.set_cons_succ] at hK
            have e2 : s 2 = .bool true := hS.val_at 2 rfl (by decide) (hN.out 2 rfl)
            simp only [e2] at hK ⊢
            obtain ⟨u1, u2, u3, u4⟩ := (hS.mem.k (i := 3) rfl).four
            go_simp
            exact hK.out _ _ (hS.val rfl (noStore_of rfl) (Below.refl _ _) rfl)
          · intro L s w9 hN hU hi hS K hK
            dsimp only at hK ⊢
            simp only [Act.put, List.setIfInBounds_toArray, List.set_cons_zero, List.set_cons_succ] at hK
            have e3 : s 3 = Value.func (.func 12) #[] #[] := hS.val_at 3 rfl (by decide) (hN.out 3 rfl)
            simp only [e3] at hK ⊢
            obtain ⟨A7, c7, B7, d7, e7, h7, k7⟩ := hS.val_at 7 rfl (by decide) (hN.out 7 rfl)
            simp only [e7] at hK ⊢
            have e8 : s 8 = .agg #[.bool n, .slice PA7 xs.length pc7, .bool m, .slice PB7 ys.length pd7] := hS.val_at 8 rfl (by decide) (hN.out 8 rfl)
            simp only [e8] at hK ⊢
            have e2 : s 2 = .bool true := hS.val_at 2 rfl (by decide) (hN.out 2 rfl)
            simp only [e2] at hK ⊢
            go_simp
            go_at_call 12
            refine (sameL4 R1.out h7 k7 (hS.mem.r (i := 6) rfl) (hS.mem.r (i := 7) rfl)).mono ?_
            rintro e9 w10 ⟨rfl, q⟩
            exact hK.out _ _ (hS.val rfl (noStore_of rfl) q rfl)
          · intro L s w9 hN hU hi hS K hK
            dsimp only at hK ⊢
            simp only [Act.put, List.setIfInBounds_toArray, List.set_cons_zero, List.set_cons_succ] at hK
            have e2 : s 2 = .bool true := hS.val_at 2 rfl (by decide) (hN.out 2 rfl)
            simp only [e2] at hK ⊢
            have e9 : s 9 = .bool true := hS.val_at 9 rfl (by decide) (hN.out 9 rfl)
            simp only [e9] at hK ⊢
            go_simp
            exact hK.out _ _ (hS.val rfl (noStore_of rfl) (Below.refl _ _) rfl)
          · intro L s w9 hN hU hi hS K hK
            dsimp only at hK ⊢
            simp only [Act.put, List.setIfInBounds_toArray, List.set_cons_zero, List.set_cons_succ] at hK
            have e10 : s 10 = .bool true := hS.val_at 10 rfl (by decide) (hN.out 10 rfl)
            simp only [e10] at hK ⊢
            go_simp
            exact hK.out _ _ (hS.val rfl (noStore_of rfl) (Below.refl _ _) rfl)
        intro L s w9 hall hS
        have eL : s 11 = .bool true := hS.val_at 11 rfl (by decide) (hall 11 (by decide))
        go_wp2
        exact bodyPost_ret (v := .bool true) (by simp [results, Try.results3, go_sem, eL]) rfl ⟨rfl, hS.mem.bel⟩
end Go.Proofs.Ytlmgdhdakeekkaa

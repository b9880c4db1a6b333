/-
  The walk of the law SignedSmall.
-/
import Derived.Test.YtmhjjjffgpdolaaLsA
set_option linter.unusedSimpArgs false
set_option linter.unusedVariables false
namespace Go.Proofs.Ytmhjjjffgpdolaa
open Go.RowKit Num

theorem sD_i64 {z : Int} (h : -9223372036854775808 ≤ z) (h' : z ≤ 9223372036854775807) : (sD z).length ≤ 2 := sD_small (k := 2) (by omega)
theorem sadd_sd {a b : Int} (ha : (sD a).length ≤ 256) (hb : (sD b).length ≤ 256) (hs : (sD (a + b)).length ≤ 256) : saddR (sN a) (sD a) (sN b) (sD b) = (sN (a + b), sD (a + b), 0) := by
  rw [saddR_eq (sright_sd ha) (sright_sd hb), sv_sd, sv_sd, sfit_of hs]
  rfl
theorem smul_sd {a b : Int} (ha : (sD a).length ≤ 256) (hb : (sD b).length ≤ 256) (hs : (sD (a * b)).length ≤ 256) : smulR (sN a) (sD a) (sN b) (sD b) = (sN (a * b), sD (a * b), 0) := by
  rw [smulR_eq (sright_sd ha) (sright_sd hb), sv_sd, sv_sd, sfit_of hs]
  rfl
theorem scmp_sd {a b : Int} (ha : (sD a).length ≤ 256) (hb : (sD b).length ≤ 256) : scmpR (sN a) (sD a) (sN b) (sD b) = (cmpZ a b, 0) := by
  rw [scmpR_eq (sright_sd ha) (sright_sd hb), sv_sd, sv_sd]
theorem ssmall_sd {a : Int} (ha : (sD a).length ≤ 256) : ssmallR (sN a) (sD a) = if -9223372036854775808 ≤ a ∧ a < 9223372036854775808 then (a, 0) else (0, 4) := by
  rw [ssmallR_eq (sright_sd ha), sv_sd]
theorem ssmall_eq {n : Bool} {A : Option Addr} {c : Nat} {xs : List Nat} {w : World} {r : Int × Int} (h : ssmallR n xs = r) (ha : Rd w A c xs) :
    Calls Try.prog 22 #[iv n A xs.length c] w fun e w' => e = .returned (.tuple #[.int .i64 r.1, .int .i64 r.2]) ∧ Below w.heap.size w w' := by
  subst h
  exact ssmall_any n A c xs w ha
theorem scmp_eq' {n m : Bool} {A B : Option Addr} {c d : Nat} {xs ys : List Nat} {w : World} {r : Int × Int} (h : scmpR n xs m ys = r) (ha : Rd w A c xs) (hb : Rd w B d ys) :
    Calls Try.prog 24 #[iv n A xs.length c, iv m B ys.length d] w fun e w' => e = .returned (.tuple #[.int .i64 r.1, .int .i64 r.2]) ∧ Below w.heap.size w w' := by
  subst h
  exact scmp_any n m A B c d xs ys w ha hb
theorem sadd_eq' {n m : Bool} {A B : Option Addr} {c d : Nat} {xs ys : List Nat} {w : World} {r : R3} (h : saddR n xs m ys = r) (ha : Rd w A c xs) (hb : Rd w B d ys) :
    Calls Try.prog 30 #[iv n A xs.length c, iv m B ys.length d] w fun e w' => RetI w w' e r := by
  subst h
  exact sadd_any n m A B c d xs ys w ha hb
theorem smul_eq' {n m : Bool} {A B : Option Addr} {c d : Nat} {xs ys : List Nat} {w : World} {r : R3} (h : smulR n xs m ys = r) (ha : Rd w A c xs) (hb : Rd w B d ys) :
    Calls Try.prog 32 #[iv n A xs.length c, iv m B ys.length d] w fun e w' => RetI w w' e r := by
  subst h
  exact smul_any n m A B c d xs ys w ha hb
theorem natAbs_mul_le {a b : Int} (ha : a.natAbs ≤ 9223372036854775808) (hb : b.natAbs ≤ 9223372036854775808) : (a * b).natAbs < 4294967296 ^ 4 := by
  rw [Int.natAbs_mul]
  exact Nat.lt_of_le_of_lt (Nat.mul_le_mul ha hb) (by decide)

def inB (z : Int) : Bool := decide (-9223372036854775808 ≤ z ∧ z < 9223372036854775808)
theorem small_in {a : Int} (ha : (sD a).length ≤ 256) (h : inB a = true) : ssmallR (sN a) (sD a) = (a, 0) := by
  rw [ssmall_sd ha, if_pos (of_decide_eq_true h)]
theorem small_out {a : Int} (ha : (sD a).length ≤ 256) (h : inB a = false) : ssmallR (sN a) (sD a) = (0, 4) := by
  rw [ssmall_sd ha, if_neg (of_decide_eq_false h)]
set_option maxRecDepth 100000 in
set_option maxHeartbeats 4000000 in
theorem signedSmall_use (w : World) (a : Int) (ha : (Lit.int .i64 a).wf = true) (b : Int) (hb : (Lit.int .i64 b).wf = true) :
    Calls Try.prog 8 #[.int .i64 a, .int .i64 b] w fun e w' => e = .returned (.bool true) ∧ Below w.heap.size w w' := by
  have hA : -9223372036854775808 ≤ a ∧ a ≤ 9223372036854775807 := bounds_i64 ha
  have hB : -9223372036854775808 ≤ b ∧ b ≤ 9223372036854775807 := bounds_i64 hb
  obtain ⟨a1, a2⟩ := hA
  obtain ⟨b1, b2⟩ := hB
  have la : (sD a).length ≤ 256 := Nat.le_trans (sD_i64 a1 a2) (by decide)
  have lb : (sD b).length ≤ 256 := Nat.le_trans (sD_i64 b1 b2) (by decide)
  have ls : (sD (a + b)).length ≤ 256 := Nat.le_trans (sD_small (k := 3) (by omega)) (by decide)
  have lp : (sD (a * b)).length ≤ 256 := Nat.le_trans (sD_small (natAbs_mul_le (by omega) (by omega))) (by decide)
  have HS := Lib.hid (sadd_sd la lb ls)
  have HP := Lib.hid (smul_sd la lb lp)
  have HC := Lib.hid (scmp_sd la lb)
  have HA : Hid (ssmallR (sN a) (sD a) = (a, 0)) := small_in la (decide_eq_true ⟨a1, by omega⟩)
  clear la lb ha hb
  rcases Int.lt_trichotomy a b with hlt | heq | hgt
  · have HZ : Hid (cmpZ a b = -1) := if_pos hlt
    have e1 : decide (a < b) = true := decide_eq_true hlt
    have e2 : decide (b < a) = false := decide_eq_false (by omega)
    clear hlt
    rcases Bool.eq_false_or_eq_true (inB (a + b)) with hs | hs
    · have H1 := Lib.hid (small_in ls hs)
      have s1 : -9223372036854775808 ≤ a + b := (of_decide_eq_true hs).1
      have s2 : a + b ≤ 9223372036854775807 := Int.le_of_lt_add_one (of_decide_eq_true hs).2
      clear hs
      rcases Bool.eq_false_or_eq_true (inB (a * b)) with hp | hp
      · have H2 := Lib.hid (small_in lp hp)
        have p1 : -9223372036854775808 ≤ a * b := (of_decide_eq_true hp).1
        have p2 : a * b ≤ 9223372036854775807 := Int.le_of_lt_add_one (of_decide_eq_true hp).2
        clear hp ls lp
        go_enter Try.func8, Try.ntmps8
        go_wp2_with fail
        refine (salive_any w).mono ?_
        rintro e w1 ⟨rfl, q⟩
        have M := (Mem.start w).below q
        clear q
        go_wp2_with fail
        refine (sof_any a w1 a1 a2).mono ?_
        rintro e w2 ⟨⟨A1, c1, rfl, h⟩, q⟩
        replace M := (M.below q).addR h
        clear q h
        go_wp2_with fail
        refine (sof_any b w2 b1 b2).mono ?_
        rintro e w3 ⟨⟨A2, c2, rfl, h⟩, q⟩
        replace M := ((((M.below q).addR h).new 27 #[.bool (sN a), .slice A1 (sD a).length c1]).newAt (g := w3.heap.size + 1) (by simp) 27 #[.bool (sN b), .slice A2 (sD b).length c2])
        clear q h
        obtain ⟨v1, v2, _, _⟩ := (M.k (i := 1) rfl).both
        obtain ⟨v3, v4, _, _⟩ := (M.k (i := 0) rfl).both
        go_wp2_with fail
        refine (sadd_eq' HS.out (M.r (i := 1) rfl) (M.r (i := 0) rfl)).mono ?_
        rintro e w4 ⟨⟨A3, c3, rfl, h⟩, q⟩
        replace M := ((M.below q).addR h).new 27 #[.bool (sN (a + b)), .slice A3 (sD (a + b)).length c3]
        clear q h v1 v2 v3 v4
        obtain ⟨v1, v2, _, _⟩ := (M.k (i := 2) rfl).both
        obtain ⟨v3, v4, _, _⟩ := (M.k (i := 1) rfl).both
        go_wp2_with fail
        refine (smul_eq' HP.out (M.r (i := 2) rfl) (M.r (i := 1) rfl)).mono ?_
        rintro e w5 ⟨⟨A4, c4, rfl, h⟩, q⟩
        replace M := ((M.below q).addR h).new 27 #[.bool (sN (a * b)), .slice A4 (sD (a * b)).length c4]
        clear q h v1 v2 v3 v4
        obtain ⟨v1, v2, _, _⟩ := (M.k (i := 3) rfl).both
        obtain ⟨v3, v4, _, _⟩ := (M.k (i := 2) rfl).both
        go_wp2_with fail
        refine (scmp_eq' (HC.out.trans (congrArg (·, (0 : Int)) HZ.out)) (M.r (i := 3) rfl) (M.r (i := 2) rfl)).mono ?_
        rintro e w6 ⟨rfl, q⟩
        replace M := M.below q
        clear q v1 v2 v3 v4
        obtain ⟨v1, v2, _, _⟩ := (M.k (i := 1) rfl).both
        go_wp2_with fail
        refine (ssmall_eq H1.out (M.r (i := 1) rfl)).mono ?_
        rintro e w7 ⟨rfl, q⟩
        replace M := M.below q
        clear q v1 v2
        obtain ⟨v1, v2, _, _⟩ := (M.k (i := 0) rfl).both
        go_wp2_with fail
        refine (ssmall_eq H2.out (M.r (i := 0) rfl)).mono ?_
        rintro e w8 ⟨rfl, q⟩
        replace M := M.below q
        clear q v1 v2
        obtain ⟨v1, v2, _, _⟩ := (M.k (i := 3) rfl).both
        go_wp2_with fail
        refine (ssmall_eq HA.out (M.r (i := 3) rfl)).mono ?_
        rintro e w9 ⟨rfl, q⟩
        replace M := M.below q
        clear q v1 v2
        go_wp2
        go_ret
        exact ⟨rfl, M.bel⟩
      · have H2 := Lib.hid (small_out lp hp)
        clear hp ls lp
        go_enter Try.func8, Try.ntmps8
        go_wp2_with fail
        refine (salive_any w).mono ?_
        rintro e w1 ⟨rfl, q⟩
        have M := (Mem.start w).below q
        clear q
        go_wp2_with fail
        refine (sof_any a w1 a1 a2).mono ?_
        rintro e w2 ⟨⟨A1, c1, rfl, h⟩, q⟩
        replace M := (M.below q).addR h
        clear q h
        go_wp2_with fail
        refine (sof_any b w2 b1 b2).mono ?_
        rintro e w3 ⟨⟨A2, c2, rfl, h⟩, q⟩
        replace M := ((((M.below q).addR h).new 27 #[.bool (sN a), .slice A1 (sD a).length c1]).newAt (g := w3.heap.size + 1) (by simp) 27 #[.bool (sN b), .slice A2 (sD b).length c2])
        clear q h
        obtain ⟨v1, v2, _, _⟩ := (M.k (i := 1) rfl).both
        obtain ⟨v3, v4, _, _⟩ := (M.k (i := 0) rfl).both
        go_wp2_with fail
        refine (sadd_eq' HS.out (M.r (i := 1) rfl) (M.r (i := 0) rfl)).mono ?_
        rintro e w4 ⟨⟨A3, c3, rfl, h⟩, q⟩
        replace M := ((M.below q).addR h).new 27 #[.bool (sN (a + b)), .slice A3 (sD (a + b)).length c3]
        clear q h v1 v2 v3 v4
        obtain ⟨v1, v2, _, _⟩ := (M.k (i := 2) rfl).both
        obtain ⟨v3, v4, _, _⟩ := (M.k (i := 1) rfl).both
        go_wp2_with fail
        refine (smul_eq' HP.out (M.r (i := 2) rfl) (M.r (i := 1) rfl)).mono ?_
        rintro e w5 ⟨⟨A4, c4, rfl, h⟩, q⟩
        replace M := ((M.below q).addR h).new 27 #[.bool (sN (a * b)), .slice A4 (sD (a * b)).length c4]
        clear q h v1 v2 v3 v4
        obtain ⟨v1, v2, _, _⟩ := (M.k (i := 3) rfl).both
        obtain ⟨v3, v4, _, _⟩ := (M.k (i := 2) rfl).both
        go_wp2_with fail
        refine (scmp_eq' (HC.out.trans (congrArg (·, (0 : Int)) HZ.out)) (M.r (i := 3) rfl) (M.r (i := 2) rfl)).mono ?_
        rintro e w6 ⟨rfl, q⟩
        replace M := M.below q
        clear q v1 v2 v3 v4
        obtain ⟨v1, v2, _, _⟩ := (M.k (i := 1) rfl).both
        go_wp2_with fail
        refine (ssmall_eq H1.out (M.r (i := 1) rfl)).mono ?_
        rintro e w7 ⟨rfl, q⟩
        replace M := M.below q
        clear q v1 v2
        obtain ⟨v1, v2, _, _⟩ := (M.k (i := 0) rfl).both
        go_wp2_with fail
        refine (ssmall_eq H2.out (M.r (i := 0) rfl)).mono ?_
        rintro e w8 ⟨rfl, q⟩
        replace M := M.below q
        clear q v1 v2
        obtain ⟨v1, v2, _, _⟩ := (M.k (i := 3) rfl).both
        go_wp2_with fail
        refine (ssmall_eq HA.out (M.r (i := 3) rfl)).mono ?_
        rintro e w9 ⟨rfl, q⟩
        replace M := M.below q
        clear q v1 v2
        go_wp2
        go_ret
        exact ⟨rfl, M.bel⟩
    · have H1 := Lib.hid (small_out ls hs)
      clear hs
      rcases Bool.eq_false_or_eq_true (inB (a * b)) with hp | hp
      · have H2 := Lib.hid (small_in lp hp)
        have p1 : -9223372036854775808 ≤ a * b := (of_decide_eq_true hp).1
        have p2 : a * b ≤ 9223372036854775807 := Int.le_of_lt_add_one (of_decide_eq_true hp).2
        clear hp ls lp
        go_enter Try.func8, Try.ntmps8
        go_wp2_with fail
        refine (salive_any w).mono ?_
        rintro e w1 ⟨rfl, q⟩
        have M := (Mem.start w).below q
        clear q
        go_wp2_with fail
        refine (sof_any a w1 a1 a2).mono ?_
        rintro e w2 ⟨⟨A1, c1, rfl, h⟩, q⟩
        replace M := (M.below q).addR h
        clear q h
        go_wp2_with fail
        refine (sof_any b w2 b1 b2).mono ?_
        rintro e w3 ⟨⟨A2, c2, rfl, h⟩, q⟩
        replace M := ((((M.below q).addR h).new 27 #[.bool (sN a), .slice A1 (sD a).length c1]).newAt (g := w3.heap.size + 1) (by simp) 27 #[.bool (sN b), .slice A2 (sD b).length c2])
        clear q h
        obtain ⟨v1, v2, _, _⟩ := (M.k (i := 1) rfl).both
        obtain ⟨v3, v4, _, _⟩ := (M.k (i := 0) rfl).both
        go_wp2_with fail
        refine (sadd_eq' HS.out (M.r (i := 1) rfl) (M.r (i := 0) rfl)).mono ?_
        rintro e w4 ⟨⟨A3, c3, rfl, h⟩, q⟩
        replace M := ((M.below q).addR h).new 27 #[.bool (sN (a + b)), .slice A3 (sD (a + b)).length c3]
        clear q h v1 v2 v3 v4
        obtain ⟨v1, v2, _, _⟩ := (M.k (i := 2) rfl).both
        obtain ⟨v3, v4, _, _⟩ := (M.k (i := 1) rfl).both
        go_wp2_with fail
        refine (smul_eq' HP.out (M.r (i := 2) rfl) (M.r (i := 1) rfl)).mono ?_
        rintro e w5 ⟨⟨A4, c4, rfl, h⟩, q⟩
        replace M := ((M.below q).addR h).new 27 #[.bool (sN (a * b)), .slice A4 (sD (a * b)).length c4]
        clear q h v1 v2 v3 v4
        obtain ⟨v1, v2, _, _⟩ := (M.k (i := 3) rfl).both
        obtain ⟨v3, v4, _, _⟩ := (M.k (i := 2) rfl).both
        go_wp2_with fail
        refine (scmp_eq' (HC.out.trans (congrArg (·, (0 : Int)) HZ.out)) (M.r (i := 3) rfl) (M.r (i := 2) rfl)).mono ?_
        rintro e w6 ⟨rfl, q⟩
        replace M := M.below q
        clear q v1 v2 v3 v4
        obtain ⟨v1, v2, _, _⟩ := (M.k (i := 1) rfl).both
        go_wp2_with fail
        refine (ssmall_eq H1.out (M.r (i := 1) rfl)).mono ?_
        rintro e w7 ⟨rfl, q⟩
        replace M := M.below q
        clear q v1 v2
        obtain ⟨v1, v2, _, _⟩ := (M.k (i := 0) rfl).both
        go_wp2_with fail
        refine (ssmall_eq H2.out (M.r (i := 0) rfl)).mono ?_
        rintro e w8 ⟨rfl, q⟩
        replace M := M.below q
        clear q v1 v2
        obtain ⟨v1, v2, _, _⟩ := (M.k (i := 3) rfl).both
        go_wp2_with fail
        refine (ssmall_eq HA.out (M.r (i := 3) rfl)).mono ?_
        rintro e w9 ⟨rfl, q⟩
        replace M := M.below q
        clear q v1 v2
        go_wp2
        go_ret
        exact ⟨rfl, M.bel⟩
      · have H2 := Lib.hid (small_out lp hp)
        clear hp ls lp
        go_enter Try.func8, Try.ntmps8
        go_wp2_with fail
        refine (salive_any w).mono ?_
        rintro e w1 ⟨rfl, q⟩
        have M := (Mem.start w).below q
        clear q
        go_wp2_with fail
        refine (sof_any a w1 a1 a2).mono ?_
        rintro e w2 ⟨⟨A1, c1, rfl, h⟩, q⟩
        replace M := (M.below q).addR h
        clear q h
        go_wp2_with fail
        refine (sof_any b w2 b1 b2).mono ?_
        rintro e w3 ⟨⟨A2, c2, rfl, h⟩, q⟩
        replace M := ((((M.below q).addR h).new 27 #[.bool (sN a), .slice A1 (sD a).length c1]).newAt (g := w3.heap.size + 1) (by simp) 27 #[.bool (sN b), .slice A2 (sD b).length c2])
        clear q h
        obtain ⟨v1, v2, _, _⟩ := (M.k (i := 1) rfl).both
        obtain ⟨v3, v4, _, _⟩ := (M.k (i := 0) rfl).both
        go_wp2_with fail
        refine (sadd_eq' HS.out (M.r (i := 1) rfl) (M.r (i := 0) rfl)).mono ?_
        rintro e w4 ⟨⟨A3, c3, rfl, h⟩, q⟩
        replace M := ((M.below q).addR h).new 27 #[.bool (sN (a + b)), .slice A3 (sD (a + b)).length c3]
        clear q h v1 v2 v3 v4
        obtain ⟨v1, v2, _, _⟩ := (M.k (i := 2) rfl).both
        obtain ⟨v3, v4, _, _⟩ := (M.k (i := 1) rfl).both
        go_wp2_with fail
        refine (smul_eq' HP.out (M.r (i := 2) rfl) (M.r (i := 1) rfl)).mono ?_
        rintro e w5 ⟨⟨A4, c4, rfl, h⟩, q⟩
        replace M := ((M.below q).addR h).new 27 #[.bool (sN (a * b)), .slice A4 (sD (a * b)).length c4]
        clear q h v1 v2 v3 v4
        obtain ⟨v1, v2, _, _⟩ := (M.k (i := 3) rfl).both
        obtain ⟨v3, v4, _, _⟩ := (M.k (i := 2) rfl).both
        go_wp2_with fail
        refine (scmp_eq' (HC.out.trans (congrArg (·, (0 : Int)) HZ.out)) (M.r (i := 3) rfl) (M.r (i := 2) rfl)).mono ?_
        rintro e w6 ⟨rfl, q⟩
        replace M := M.below q
        clear q v1 v2 v3 v4
        obtain ⟨v1, v2, _, _⟩ := (M.k (i := 1) rfl).both
        go_wp2_with fail
        refine (ssmall_eq H1.out (M.r (i := 1) rfl)).mono ?_
        rintro e w7 ⟨rfl, q⟩
        replace M := M.below q
        clear q v1 v2
        obtain ⟨v1, v2, _, _⟩ := (M.k (i := 0) rfl).both
        go_wp2_with fail
        refine (ssmall_eq H2.out (M.r (i := 0) rfl)).mono ?_
        rintro e w8 ⟨rfl, q⟩
        replace M := M.below q
        clear q v1 v2
        obtain ⟨v1, v2, _, _⟩ := (M.k (i := 3) rfl).both
        go_wp2_with fail
        refine (ssmall_eq HA.out (M.r (i := 3) rfl)).mono ?_
        rintro e w9 ⟨rfl, q⟩
        replace M := M.below q
        clear q v1 v2
        go_wp2
        go_ret
        exact ⟨rfl, M.bel⟩
  · have HZ : Hid (cmpZ a b = 0) := (if_neg (by omega)).trans (if_neg (by omega))
    have e1 : decide (a < b) = false := decide_eq_false (by omega)
    have e2 : decide (b < a) = false := decide_eq_false (by omega)
    clear heq
    rcases Bool.eq_false_or_eq_true (inB (a + b)) with hs | hs
    · have H1 := Lib.hid (small_in ls hs)
      have s1 : -9223372036854775808 ≤ a + b := (of_decide_eq_true hs).1
      have s2 : a + b ≤ 9223372036854775807 := Int.le_of_lt_add_one (of_decide_eq_true hs).2
      clear hs
      rcases Bool.eq_false_or_eq_true (inB (a * b)) with hp | hp
      · have H2 := Lib.hid (small_in lp hp)
        have p1 : -9223372036854775808 ≤ a * b := (of_decide_eq_true hp).1
        have p2 : a * b ≤ 9223372036854775807 := Int.le_of_lt_add_one (of_decide_eq_true hp).2
        clear hp ls lp
        go_enter Try.func8, Try.ntmps8
        go_wp2_with fail
        refine (salive_any w).mono ?_
        rintro e w1 ⟨rfl, q⟩
        have M := (Mem.start w).below q
        clear q
        go_wp2_with fail
        refine (sof_any a w1 a1 a2).mono ?_
        rintro e w2 ⟨⟨A1, c1, rfl, h⟩, q⟩
        replace M := (M.below q).addR h
        clear q h
        go_wp2_with fail
        refine (sof_any b w2 b1 b2).mono ?_
        rintro e w3 ⟨⟨A2, c2, rfl, h⟩, q⟩
        replace M := ((((M.below q).addR h).new 27 #[.bool (sN a), .slice A1 (sD a).length c1]).newAt (g := w3.heap.size + 1) (by simp) 27 #[.bool (sN b), .slice A2 (sD b).length c2])
        clear q h
        obtain ⟨v1, v2, _, _⟩ := (M.k (i := 1) rfl).both
        obtain ⟨v3, v4, _, _⟩ := (M.k (i := 0) rfl).both
        go_wp2_with fail
        refine (sadd_eq' HS.out (M.r (i := 1) rfl) (M.r (i := 0) rfl)).mono ?_
        rintro e w4 ⟨⟨A3, c3, rfl, h⟩, q⟩
        replace M := ((M.below q).addR h).new 27 #[.bool (sN (a + b)), .slice A3 (sD (a + b)).length c3]
        clear q h v1 v2 v3 v4
        obtain ⟨v1, v2, _, _⟩ := (M.k (i := 2) rfl).both
        obtain ⟨v3, v4, _, _⟩ := (M.k (i := 1) rfl).both
        go_wp2_with fail
        refine (smul_eq' HP.out (M.r (i := 2) rfl) (M.r (i := 1) rfl)).mono ?_
        rintro e w5 ⟨⟨A4, c4, rfl, h⟩, q⟩
        replace M := ((M.below q).addR h).new 27 #[.bool (sN (a * b)), .slice A4 (sD (a * b)).length c4]
        clear q h v1 v2 v3 v4
        obtain ⟨v1, v2, _, _⟩ := (M.k (i := 3) rfl).both
        obtain ⟨v3, v4, _, _⟩ := (M.k (i := 2) rfl).both
        go_wp2_with fail
        refine (scmp_eq' (HC.out.trans (congrArg (·, (0 : Int)) HZ.out)) (M.r (i := 3) rfl) (M.r (i := 2) rfl)).mono ?_
        rintro e w6 ⟨rfl, q⟩
        replace M := M.below q
        clear q v1 v2 v3 v4
        obtain ⟨v1, v2, _, _⟩ := (M.k (i := 1) rfl).both
        go_wp2_with fail
        refine (ssmall_eq H1.out (M.r (i := 1) rfl)).mono ?_
        rintro e w7 ⟨rfl, q⟩
        replace M := M.below q
        clear q v1 v2
        obtain ⟨v1, v2, _, _⟩ := (M.k (i := 0) rfl).both
        go_wp2_with fail
        refine (ssmall_eq H2.out (M.r (i := 0) rfl)).mono ?_
        rintro e w8 ⟨rfl, q⟩
        replace M := M.below q
        clear q v1 v2
        obtain ⟨v1, v2, _, _⟩ := (M.k (i := 3) rfl).both
        go_wp2_with fail
        refine (ssmall_eq HA.out (M.r (i := 3) rfl)).mono ?_
        rintro e w9 ⟨rfl, q⟩
        replace M := M.below q
        clear q v1 v2
        go_wp2
        go_ret
        exact ⟨rfl, M.bel⟩
      · have H2 := Lib.hid (small_out lp hp)
        clear hp ls lp
        go_enter Try.func8, Try.ntmps8
        go_wp2_with fail
        refine (salive_any w).mono ?_
        rintro e w1 ⟨rfl, q⟩
        have M := (Mem.start w).below q
        clear q
        go_wp2_with fail
        refine (sof_any a w1 a1 a2).mono ?_
        rintro e w2 ⟨⟨A1, c1, rfl, h⟩, q⟩
        replace M := (M.below q).addR h
        clear q h
        go_wp2_with fail
        refine (sof_any b w2 b1 b2).mono ?_
        rintro e w3 ⟨⟨A2, c2, rfl, h⟩, q⟩
        replace M := ((((M.below q).addR h).new 27 #[.bool (sN a), .slice A1 (sD a).length c1]).newAt (g := w3.heap.size + 1) (by simp) 27 #[.bool (sN b), .slice A2 (sD b).length c2])
        clear q h
        obtain ⟨v1, v2, _, _⟩ := (M.k (i := 1) rfl).both
        obtain ⟨v3, v4, _, _⟩ := (M.k (i := 0) rfl).both
        go_wp2_with fail
        refine (sadd_eq' HS.out (M.r (i := 1) rfl) (M.r (i := 0) rfl)).mono ?_
        rintro e w4 ⟨⟨A3, c3, rfl, h⟩, q⟩
        replace M := ((M.below q).addR h).new 27 #[.bool (sN (a + b)), .slice A3 (sD (a + b)).length c3]
        clear q h v1 v2 v3 v4
        obtain ⟨v1, v2, _, _⟩ := (M.k (i := 2) rfl).both
        obtain ⟨v3, v4, _, _⟩ := (M.k (i := 1) rfl).both
        go_wp2_with fail
        refine (smul_eq' HP.out (M.r (i := 2) rfl) (M.r (i := 1) rfl)).mono ?_
        rintro e w5 ⟨⟨A4, c4, rfl, h⟩, q⟩
        replace M := ((M.below q).addR h).new 27 #[.bool (sN (a * b)), .slice A4 (sD (a * b)).length c4]
        clear q h v1 v2 v3 v4
        obtain ⟨v1, v2, _, _⟩ := (M.k (i := 3) rfl).both
        obtain ⟨v3, v4, _, _⟩ := (M.k (i := 2) rfl).both
        go_wp2_with fail
        refine (scmp_eq' (HC.out.trans (congrArg (·, (0 : Int)) HZ.out)) (M.r (i := 3) rfl) (M.r (i := 2) rfl)).mono ?_
        rintro e w6 ⟨rfl, q⟩
        replace M := M.below q
        clear q v1 v2 v3 v4
        obtain ⟨v1, v2, _, _⟩ := (M.k (i := 1) rfl).both
        go_wp2_with fail
        refine (ssmall_eq H1.out (M.r (i := 1) rfl)).mono ?_
        rintro e w7 ⟨rfl, q⟩
        replace M := M.below q
        clear q v1 v2
        obtain ⟨v1, v2, _, _⟩ := (M.k (i := 0) rfl).both
        go_wp2_with fail
        refine (ssmall_eq H2.out (M.r (i := 0) rfl)).mono ?_
        rintro e w8 ⟨rfl, q⟩
        replace M := M.below q
        clear q v1 v2
        obtain ⟨v1, v2, _, _⟩ := (M.k (i := 3) rfl).both
        go_wp2_with fail
        refine (ssmall_eq HA.out (M.r (i := 3) rfl)).mono ?_
        rintro e w9 ⟨rfl, q⟩
        replace M := M.below q
        clear q v1 v2
        go_wp2
        go_ret
        exact ⟨rfl, M.bel⟩
    · have H1 := Lib.hid (small_out ls hs)
      clear hs
      rcases Bool.eq_false_or_eq_true (inB (a * b)) with hp | hp
      · have H2 := Lib.hid (small_in lp hp)
        have p1 : -9223372036854775808 ≤ a * b := (of_decide_eq_true hp).1
        have p2 : a * b ≤ 9223372036854775807 := Int.le_of_lt_add_one (of_decide_eq_true hp).2
        clear hp ls lp
        go_enter Try.func8, Try.ntmps8
        go_wp2_with fail
        refine (salive_any w).mono ?_
        rintro e w1 ⟨rfl, q⟩
        have M := (Mem.start w).below q
        clear q
        go_wp2_with fail
        refine (sof_any a w1 a1 a2).mono ?_
        rintro e w2 ⟨⟨A1, c1, rfl, h⟩, q⟩
        replace M := (M.below q).addR h
        clear q h
        go_wp2_with fail
        refine (sof_any b w2 b1 b2).mono ?_
        rintro e w3 ⟨⟨A2, c2, rfl, h⟩, q⟩
        replace M := ((((M.below q).addR h).new 27 #[.bool (sN a), .slice A1 (sD a).length c1]).newAt (g := w3.heap.size + 1) (by simp) 27 #[.bool (sN b), .slice A2 (sD b).length c2])
        clear q h
        obtain ⟨v1, v2, _, _⟩ := (M.k (i := 1) rfl).both
        obtain ⟨v3, v4, _, _⟩ := (M.k (i := 0) rfl).both
        go_wp2_with fail
        refine (sadd_eq' HS.out (M.r (i := 1) rfl) (M.r (i := 0) rfl)).mono ?_
        rintro e w4 ⟨⟨A3, c3, rfl, h⟩, q⟩
        replace M := ((M.below q).addR h).new 27 #[.bool (sN (a + b)), .slice A3 (sD (a + b)).length c3]
        clear q h v1 v2 v3 v4
        obtain ⟨v1, v2, _, _⟩ := (M.k (i := 2) rfl).both
        obtain ⟨v3, v4, _, _⟩ := (M.k (i := 1) rfl).both
        go_wp2_with fail
        refine (smul_eq' HP.out (M.r (i := 2) rfl) (M.r (i := 1) rfl)).mono ?_
        rintro e w5 ⟨⟨A4, c4, rfl, h⟩, q⟩
        replace M := ((M.below q).addR h).new 27 #[.bool (sN (a * b)), .slice A4 (sD (a * b)).length c4]
        clear q h v1 v2 v3 v4
        obtain ⟨v1, v2, _, _⟩ := (M.k (i := 3) rfl).both
        obtain ⟨v3, v4, _, _⟩ := (M.k (i := 2) rfl).both
        go_wp2_with fail
        refine (scmp_eq' (HC.out.trans (congrArg (·, (0 : Int)) HZ.out)) (M.r (i := 3) rfl) (M.r (i := 2) rfl)).mono ?_
        rintro e w6 ⟨rfl, q⟩
        replace M := M.below q
        clear q v1 v2 v3 v4
        obtain ⟨v1, v2, _, _⟩ := (M.k (i := 1) rfl).both
        go_wp2_with fail
        refine (ssmall_eq H1.out (M.r (i := 1) rfl)).mono ?_
        rintro e w7 ⟨rfl, q⟩
        replace M := M.below q
        clear q v1 v2
        obtain ⟨v1, v2, _, _⟩ := (M.k (i := 0) rfl).both
        go_wp2_with fail
        refine (ssmall_eq H2.out (M.r (i := 0) rfl)).mono ?_
        rintro e w8 ⟨rfl, q⟩
        replace M := M.below q
        clear q v1 v2
        obtain ⟨v1, v2, _, _⟩ := (M.k (i := 3) rfl).both
        go_wp2_with fail
        refine (ssmall_eq HA.out (M.r (i := 3) rfl)).mono ?_
        rintro e w9 ⟨rfl, q⟩
        replace M := M.below q
        clear q v1 v2
        go_wp2
        go_ret
        exact ⟨rfl, M.bel⟩
      · have H2 := Lib.hid (small_out lp hp)
        clear hp ls lp
        go_enter Try.func8, Try.ntmps8
        go_wp2_with fail
        refine (salive_any w).mono ?_
        rintro e w1 ⟨rfl, q⟩
        have M := (Mem.start w).below q
        clear q
        go_wp2_with fail
        refine (sof_any a w1 a1 a2).mono ?_
        rintro e w2 ⟨⟨A1, c1, rfl, h⟩, q⟩
        replace M := (M.below q).addR h
        clear q h
        go_wp2_with fail
        refine (sof_any b w2 b1 b2).mono ?_
        rintro e w3 ⟨⟨A2, c2, rfl, h⟩, q⟩
        replace M := ((((M.below q).addR h).new 27 #[.bool (sN a), .slice A1 (sD a).length c1]).newAt (g := w3.heap.size + 1) (by simp) 27 #[.bool (sN b), .slice A2 (sD b).length c2])
        clear q h
        obtain ⟨v1, v2, _, _⟩ := (M.k (i := 1) rfl).both
        obtain ⟨v3, v4, _, _⟩ := (M.k (i := 0) rfl).both
        go_wp2_with fail
        refine (sadd_eq' HS.out (M.r (i := 1) rfl) (M.r (i := 0) rfl)).mono ?_
        rintro e w4 ⟨⟨A3, c3, rfl, h⟩, q⟩
        replace M := ((M.below q).addR h).new 27 #[.bool (sN (a + b)), .slice A3 (sD (a + b)).length c3]
        clear q h v1 v2 v3 v4
        obtain ⟨v1, v2, _, _⟩ := (M.k (i := 2) rfl).both
        obtain ⟨v3, v4, _, _⟩ := (M.k (i := 1) rfl).both
        go_wp2_with fail
        refine (smul_eq' HP.out (M.r (i := 2) rfl) (M.r (i := 1) rfl)).mono ?_
        rintro e w5 ⟨⟨A4, c4, rfl, h⟩, q⟩
        replace M := ((M.below q).addR h).new 27 #[.bool (sN (a * b)), .slice A4 (sD (a * b)).length c4]
        clear q h v1 v2 v3 v4
        obtain ⟨v1, v2, _, _⟩ := (M.k (i := 3) rfl).both
        obtain ⟨v3, v4, _, _⟩ := (M.k (i := 2) rfl).both
        go_wp2_with fail
        refine (scmp_eq' (HC.out.trans (congrArg (·, (0 : Int)) HZ.out)) (M.r (i := 3) rfl) (M.r (i := 2) rfl)).mono ?_
        rintro e w6 ⟨rfl, q⟩
        replace M := M.below q
        clear q v1 v2 v3 v4
        obtain ⟨v1, v2, _, _⟩ := (M.k (i := 1) rfl).both
        go_wp2_with fail
        refine (ssmall_eq H1.out (M.r (i := 1) rfl)).mono ?_
        rintro e w7 ⟨rfl, q⟩
        replace M := M.below q
        clear q v1 v2
        obtain ⟨v1, v2, _, _⟩ := (M.k (i := 0) rfl).both
        go_wp2_with fail
        refine (ssmall_eq H2.out (M.r (i := 0) rfl)).mono ?_
        rintro e w8 ⟨rfl, q⟩
        replace M := M.below q
        clear q v1 v2
        obtain ⟨v1, v2, _, _⟩ := (M.k (i := 3) rfl).both
        go_wp2_with fail
        refine (ssmall_eq HA.out (M.r (i := 3) rfl)).mono ?_
        rintro e w9 ⟨rfl, q⟩
        replace M := M.below q
        clear q v1 v2
        go_wp2
        go_ret
        exact ⟨rfl, M.bel⟩
  · have HZ : Hid (cmpZ a b = 1) := (if_neg (by omega)).trans (if_pos hgt)
    have e1 : decide (a < b) = false := decide_eq_false (by omega)
    have e2 : decide (b < a) = true := decide_eq_true hgt
    clear hgt
    rcases Bool.eq_false_or_eq_true (inB (a + b)) with hs | hs
    · have H1 := Lib.hid (small_in ls hs)
      have s1 : -9223372036854775808 ≤ a + b := (of_decide_eq_true hs).1
      have s2 : a + b ≤ 9223372036854775807 := Int.le_of_lt_add_one (of_decide_eq_true hs).2
      clear hs
      rcases Bool.eq_false_or_eq_true (inB (a * b)) with hp | hp
      · have H2 := Lib.hid (small_in lp hp)
        have p1 : -9223372036854775808 ≤ a * b := (of_decide_eq_true hp).1
        have p2 : a * b ≤ 9223372036854775807 := Int.le_of_lt_add_one (of_decide_eq_true hp).2
        clear hp ls lp
        go_enter Try.func8, Try.ntmps8
        go_wp2_with fail
        refine (salive_any w).mono ?_
        rintro e w1 ⟨rfl, q⟩
        have M := (Mem.start w).below q
        clear q
        go_wp2_with fail
        refine (sof_any a w1 a1 a2).mono ?_
        rintro e w2 ⟨⟨A1, c1, rfl, h⟩, q⟩
        replace M := (M.below q).addR h
        clear q h
        go_wp2_with fail
        refine (sof_any b w2 b1 b2).mono ?_
        rintro e w3 ⟨⟨A2, c2, rfl, h⟩, q⟩
        replace M := ((((M.below q).addR h).new 27 #[.bool (sN a), .slice A1 (sD a).length c1]).newAt (g := w3.heap.size + 1) (by simp) 27 #[.bool (sN b), .slice A2 (sD b).length c2])
        clear q h
        obtain ⟨v1, v2, _, _⟩ := (M.k (i := 1) rfl).both
        obtain ⟨v3, v4, _, _⟩ := (M.k (i := 0) rfl).both
        go_wp2_with fail
        refine (sadd_eq' HS.out (M.r (i := 1) rfl) (M.r (i := 0) rfl)).mono ?_
        rintro e w4 ⟨⟨A3, c3, rfl, h⟩, q⟩
        replace M := ((M.below q).addR h).new 27 #[.bool (sN (a + b)), .slice A3 (sD (a + b)).length c3]
        clear q h v1 v2 v3 v4
        obtain ⟨v1, v2, _, _⟩ := (M.k (i := 2) rfl).both
        obtain ⟨v3, v4, _, _⟩ := (M.k (i := 1) rfl).both
        go_wp2_with fail
        refine (smul_eq' HP.out (M.r (i := 2) rfl) (M.r (i := 1) rfl)).mono ?_
        rintro e w5 ⟨⟨A4, c4, rfl, h⟩, q⟩
        replace M := ((M.below q).addR h).new 27 #[.bool (sN (a * b)), .slice A4 (sD (a * b)).length c4]
        clear q h v1 v2 v3 v4
        obtain ⟨v1, v2, _, _⟩ := (M.k (i := 3) rfl).both
        obtain ⟨v3, v4, _, _⟩ := (M.k (i := 2) rfl).both
        go_wp2_with fail
        refine (scmp_eq' (HC.out.trans (congrArg (·, (0 : Int)) HZ.out)) (M.r (i := 3) rfl) (M.r (i := 2) rfl)).mono ?_
        rintro e w6 ⟨rfl, q⟩
        replace M := M.below q
        clear q v1 v2 v3 v4
        obtain ⟨v1, v2, _, _⟩ := (M.k (i := 1) rfl).both
        go_wp2_with fail
        refine (ssmall_eq H1.out (M.r (i := 1) rfl)).mono ?_
        rintro e w7 ⟨rfl, q⟩
        replace M := M.below q
        clear q v1 v2
        obtain ⟨v1, v2, _, _⟩ := (M.k (i := 0) rfl).both
        go_wp2_with fail
        refine (ssmall_eq H2.out (M.r (i := 0) rfl)).mono ?_
        rintro e w8 ⟨rfl, q⟩
        replace M := M.below q
        clear q v1 v2
        obtain ⟨v1, v2, _, _⟩ := (M.k (i := 3) rfl).both
        go_wp2_with fail
        refine (ssmall_eq HA.out (M.r (i := 3) rfl)).mono ?_
        rintro e w9 ⟨rfl, q⟩
        replace M := M.below q
        clear q v1 v2
        go_wp2
        go_ret
        exact ⟨rfl, M.bel⟩
      · have H2 := Lib.hid (small_out lp hp)
        clear hp ls lp
        go_enter Try.func8, Try.ntmps8
        go_wp2_with fail
        refine (salive_any w).mono ?_
        rintro e w1 ⟨rfl, q⟩
        have M := (Mem.start w).below q
        clear q
        go_wp2_with fail
        refine (sof_any a w1 a1 a2).mono ?_
        rintro e w2 ⟨⟨A1, c1, rfl, h⟩, q⟩
        replace M := (M.below q).addR h
        clear q h
        go_wp2_with fail
        refine (sof_any b w2 b1 b2).mono ?_
        rintro e w3 ⟨⟨A2, c2, rfl, h⟩, q⟩
        replace M := ((((M.below q).addR h).new 27 #[.bool (sN a), .slice A1 (sD a).length c1]).newAt (g := w3.heap.size + 1) (by simp) 27 #[.bool (sN b), .slice A2 (sD b).length c2])
        clear q h
        obtain ⟨v1, v2, _, _⟩ := (M.k (i := 1) rfl).both
        obtain ⟨v3, v4, _, _⟩ := (M.k (i := 0) rfl).both
        go_wp2_with fail
        refine (sadd_eq' HS.out (M.r (i := 1) rfl) (M.r (i := 0) rfl)).mono ?_
        rintro e w4 ⟨⟨A3, c3, rfl, h⟩, q⟩
        replace M := ((M.below q).addR h).new 27 #[.bool (sN (a + b)), .slice A3 (sD (a + b)).length c3]
        clear q h v1 v2 v3 v4
        obtain ⟨v1, v2, _, _⟩ := (M.k (i := 2) rfl).both
        obtain ⟨v3, v4, _, _⟩ := (M.k (i := 1) rfl).both
        go_wp2_with fail
        refine (smul_eq' HP.out (M.r (i := 2) rfl) (M.r (i := 1) rfl)).mono ?_
        rintro e w5 ⟨⟨A4, c4, rfl, h⟩, q⟩
        replace M := ((M.below q).addR h).new 27 #[.bool (sN (a * b)), .slice A4 (sD (a * b)).length c4]
        clear q h v1 v2 v3 v4
        obtain ⟨v1, v2, _, _⟩ := (M.k (i := 3) rfl).both
        obtain ⟨v3, v4, _, _⟩ := (M.k (i := 2) rfl).both
        go_wp2_with fail
        refine (scmp_eq' (HC.out.trans (congrArg (·, (0 : Int)) HZ.out)) (M.r (i := 3) rfl) (M.r (i := 2) rfl)).mono ?_
        rintro e w6 ⟨rfl, q⟩
        replace M := M.below q
        clear q v1 v2 v3 v4
        obtain ⟨v1, v2, _, _⟩ := (M.k (i := 1) rfl).both
        go_wp2_with fail
        refine (ssmall_eq H1.out (M.r (i := 1) rfl)).mono ?_
        rintro e w7 ⟨rfl, q⟩
        replace M := M.below q
        clear q v1 v2
        obtain ⟨v1, v2, _, _⟩ := (M.k (i := 0) rfl).both
        go_wp2_with fail
        refine (ssmall_eq H2.out (M.r (i := 0) rfl)).mono ?_
        rintro e w8 ⟨rfl, q⟩
        replace M := M.below q
        clear q v1 v2
        obtain ⟨v1, v2, _, _⟩ := (M.k (i := 3) rfl).both
        go_wp2_with fail
        refine (ssmall_eq HA.out (M.r (i := 3) rfl)).mono ?_
        rintro e w9 ⟨rfl, q⟩
        replace M := M.below q
        clear q v1 v2
        go_wp2
        go_ret
        exact ⟨rfl, M.bel⟩
    · have H1 := Lib.hid (small_out ls hs)
      clear hs
      rcases Bool.eq_false_or_eq_true (inB (a * b)) with hp | hp
      · have H2 := Lib.hid (small_in lp hp)
        have p1 : -9223372036854775808 ≤ a * b := (of_decide_eq_true hp).1
        have p2 : a * b ≤ 9223372036854775807 := Int.le_of_lt_add_one (of_decide_eq_true hp).2
        clear hp ls lp
        go_enter Try.func8, Try.ntmps8
        go_wp2_with fail
        refine (salive_any w).mono ?_
        rintro e w1 ⟨rfl, q⟩
        have M := (Mem.start w).below q
        clear q
        go_wp2_with fail
        refine (sof_any a w1 a1 a2).mono ?_
        rintro e w2 ⟨⟨A1, c1, rfl, h⟩, q⟩
        replace M := (M.below q).addR h
        clear q h
        go_wp2_with fail
        refine (sof_any b w2 b1 b2).mono ?_
        rintro e w3 ⟨⟨A2, c2, rfl, h⟩, q⟩
        replace M := ((((M.below q).addR h).new 27 #[.bool (sN a), .slice A1 (sD a).length c1]).newAt (g := w3.heap.size + 1) (by simp) 27 #[.bool (sN b), .slice A2 (sD b).length c2])
        clear q h
        obtain ⟨v1, v2, _, _⟩ := (M.k (i := 1) rfl).both
        obtain ⟨v3, v4, _, _⟩ := (M.k (i := 0) rfl).both
        go_wp2_with fail
        refine (sadd_eq' HS.out (M.r (i := 1) rfl) (M.r (i := 0) rfl)).mono ?_
        rintro e w4 ⟨⟨A3, c3, rfl, h⟩, q⟩
        replace M := ((M.below q).addR h).new 27 #[.bool (sN (a + b)), .slice A3 (sD (a + b)).length c3]
        clear q h v1 v2 v3 v4
        obtain ⟨v1, v2, _, _⟩ := (M.k (i := 2) rfl).both
        obtain ⟨v3, v4, _, _⟩ := (M.k (i := 1) rfl).both
        go_wp2_with fail
        refine (smul_eq' HP.out (M.r (i := 2) rfl) (M.r (i := 1) rfl)).mono ?_
        rintro e w5 ⟨⟨A4, c4, rfl, h⟩, q⟩
        replace M := ((M.below q).addR h).new 27 #[.bool (sN (a * b)), .slice A4 (sD (a * b)).length c4]
        clear q h v1 v2 v3 v4
        obtain ⟨v1, v2, _, _⟩ := (M.k (i := 3) rfl).both
        obtain ⟨v3, v4, _, _⟩ := (M.k (i := 2) rfl).both
        go_wp2_with fail
        refine (scmp_eq' (HC.out.trans (congrArg (·, (0 : Int)) HZ.out)) (M.r (i := 3) rfl) (M.r (i := 2) rfl)).mono ?_
        rintro e w6 ⟨rfl, q⟩
        replace M := M.below q
        clear q v1 v2 v3 v4
        obtain ⟨v1, v2, _, _⟩ := (M.k (i := 1) rfl).both
        go_wp2_with fail
        refine (ssmall_eq H1.out (M.r (i := 1) rfl)).mono ?_
        rintro e w7 ⟨rfl, q⟩
        replace M := M.below q
        clear q v1 v2
        obtain ⟨v1, v2, _, _⟩ := (M.k (i := 0) rfl).both
        go_wp2_with fail
        refine (ssmall_eq H2.out (M.r (i := 0) rfl)).mono ?_
        rintro e w8 ⟨rfl, q⟩
        replace M := M.below q
        clear q v1 v2
        obtain ⟨v1, v2, _, _⟩ := (M.k (i := 3) rfl).both
        go_wp2_with fail
        refine (ssmall_eq HA.out (M.r (i := 3) rfl)).mono ?_
        rintro e w9 ⟨rfl, q⟩
        replace M := M.below q
        clear q v1 v2
        go_wp2
        go_ret
        exact ⟨rfl, M.bel⟩
      · have H2 := Lib.hid (small_out lp hp)
        clear hp ls lp
        go_enter Try.func8, Try.ntmps8
        go_wp2_with fail
        refine (salive_any w).mono ?_
        rintro e w1 ⟨rfl, q⟩
        have M := (Mem.start w).below q
        clear q
        go_wp2_with fail
        refine (sof_any a w1 a1 a2).mono ?_
        rintro e w2 ⟨⟨A1, c1, rfl, h⟩, q⟩
        replace M := (M.below q).addR h
        clear q h
        go_wp2_with fail
        refine (sof_any b w2 b1 b2).mono ?_
        rintro e w3 ⟨⟨A2, c2, rfl, h⟩, q⟩
        replace M := ((((M.below q).addR h).new 27 #[.bool (sN a), .slice A1 (sD a).length c1]).newAt (g := w3.heap.size + 1) (by simp) 27 #[.bool (sN b), .slice A2 (sD b).length c2])
        clear q h
        obtain ⟨v1, v2, _, _⟩ := (M.k (i := 1) rfl).both
        obtain ⟨v3, v4, _, _⟩ := (M.k (i := 0) rfl).both
        go_wp2_with fail
        refine (sadd_eq' HS.out (M.r (i := 1) rfl) (M.r (i := 0) rfl)).mono ?_
        rintro e w4 ⟨⟨A3, c3, rfl, h⟩, q⟩
        replace M := ((M.below q).addR h).new 27 #[.bool (sN (a + b)), .slice A3 (sD (a + b)).length c3]
        clear q h v1 v2 v3 v4
        obtain ⟨v1, v2, _, _⟩ := (M.k (i := 2) rfl).both
        obtain ⟨v3, v4, _, _⟩ := (M.k (i := 1) rfl).both
        go_wp2_with fail
        refine (smul_eq' HP.out (M.r (i := 2) rfl) (M.r (i := 1) rfl)).mono ?_
        rintro e w5 ⟨⟨A4, c4, rfl, h⟩, q⟩
        replace M := ((M.below q).addR h).new 27 #[.bool (sN (a * b)), .slice A4 (sD (a * b)).length c4]
        clear q h v1 v2 v3 v4
        obtain ⟨v1, v2, _, _⟩ := (M.k (i := 3) rfl).both
        obtain ⟨v3, v4, _, _⟩ := (M.k (i := 2) rfl).both
        go_wp2_with fail
        refine (scmp_eq' (HC.out.trans (congrArg (·, (0 : Int)) HZ.out)) (M.r (i := 3) rfl) (M.r (i := 2) rfl)).mono ?_
        rintro e w6 ⟨rfl, q⟩
        replace M := M.below q
        clear q v1 v2 v3 v4
        obtain ⟨v1, v2, _, _⟩ := (M.k (i := 1) rfl).both
        go_wp2_with fail
        refine (ssmall_eq H1.out (M.r (i := 1) rfl)).mono ?_
        rintro e w7 ⟨rfl, q⟩
        replace M := M.below q
        clear q v1 v2
        obtain ⟨v1, v2, _, _⟩ := (M.k (i := 0) rfl).both
        go_wp2_with fail
        refine (ssmall_eq H2.out (M.r (i := 0) rfl)).mono ?_
        rintro e w8 ⟨rfl, q⟩
        replace M := M.below q
        clear q v1 v2
        obtain ⟨v1, v2, _, _⟩ := (M.k (i := 3) rfl).both
        go_wp2_with fail
        refine (ssmall_eq HA.out (M.r (i := 3) rfl)).mono ?_
        rintro e w9 ⟨rfl, q⟩
        replace M := M.below q
        clear q v1 v2
        go_wp2
        go_ret
        exact ⟨rfl, M.bel⟩
end Go.Proofs.Ytmhjjjffgpdolaa

/-
  SignedBack: plain laws.
-/
import Derived.Test.YtmhjjjffgpdolaaLsF
import Derived.Test.YtmhjjjffgpdolaaLsG
set_option linter.unusedSimpArgs false
set_option linter.unusedVariables false
namespace Go.Proofs.Ytmhjjjffgpdolaa
open Go.RowKit Num

theorem sd_of {n : Bool} {xs : List Nat} (ho : Ok xs) (h : sright n xs = true) : ∃ z : Int, n = sN z ∧ xs = sD z := by
  refine ⟨sv n xs, (sv_neg ho h).symm, ?_⟩
  rw [sv_zn]
  unfold zn
  rw [sD_of, right_dig ho (sright_rightB h)]
theorem decS_head (n : Nat) : (decS n).head? ≠ some 45 := by
  intro h
  have hf := formB_decS n
  unfold formB at hf
  have h2 := (of_decide_eq_true hf).2.2 45 (List.mem_of_mem_head? (by rw [h]; rfl))
  revert h2
  decide
theorem sparse_text {l : List UInt8} {n : Bool} {d : List Nat} (h : sparseR l = (n, d, 0)) : stextR n d = (l, 0) ∧ sright n d = true := by
  by_cases hh : l.head? = some 45
  · rcases parseR_cases l.tail with ⟨c, hp, hc⟩ | ⟨hp, hs, hl⟩
    · rw [sparseR_bad hh hp hc] at h
      have h3 : c = 0 := congrArg (fun r : R3 => r.2.2) h
      subst h3
      simp at hc
    · by_cases hd : dig (numOf l.tail) = []
      · rw [hd] at hp
        rw [sparseR_nil hh hp] at h
        have h3 : (5 : Int) = 0 := congrArg (fun r : R3 => r.2.2) h
        omega
      · rw [sparseR_neg hh hp hd] at h
        obtain ⟨rfl, h2⟩ := Prod.mk.inj h
        obtain ⟨rfl, _⟩ := Prod.mk.inj h2
        have hr : sright true (dig (numOf l.tail)) = true := sright_of (right_dig' hl) (fun _ => hd)
        refine ⟨?_, hr⟩
        rw [stextR_n (dig_ok _) hr, val_dig, hs]
        congr 1
        cases l with
        | nil => simp at hh
        | cons x l =>
          simp at hh
          rw [hh]
          rfl
  · rw [sparseR_plus hh] at h
    rcases parseR_cases l with ⟨c, hp, hc⟩ | ⟨hp, hs, hl⟩
    · rw [hp] at h
      have h3 : c = 0 := congrArg (fun r : R3 => r.2.2) h
      subst h3
      simp at hc
    · rw [hp] at h
      obtain ⟨rfl, h2⟩ := Prod.mk.inj h
      obtain ⟨rfl, _⟩ := Prod.mk.inj h2
      have hr : sright false (dig (numOf l)) = true := sright_of (right_dig' hl) (fun e => by cases e)
      exact ⟨by rw [stextR_p hr, val_dig, hs], hr⟩
theorem stext_sd {z : Int} (h : (sD z).length ≤ 256) : stextR (sN z) (sD z) = (intS z, 0) := by
  unfold stextR
  rw [if_pos (sright_sd h), sv_sd]
theorem intS_len {z : Int} (h : (sD z).length ≤ 30) : (intS z).length ≤ 1000 := by
  have := decS_len (n := z.natAbs) (Nat.le_trans h (by decide))
  unfold intS
  split
  · simp
    omega
  · omega
theorem sparse_int {z : Int} (h : (sD z).length ≤ 30) : sparseR (intS z) = (sN z, sD z, 0) := by
  have hp := parseR_dec (n := z.natAbs) (Nat.le_trans h (by decide))
  unfold intS
  by_cases hz : z < 0
  · rw [if_pos hz, sparseR_neg (l := 45 :: decS z.natAbs) (xs := sD z) rfl hp (fun e => by rw [sD_nil] at e; omega)]
    unfold sN
    rw [decide_eq_true hz]
  · rw [if_neg hz, sparseR_plus (decS_head _), hp]
    unfold sN
    rw [decide_eq_false hz]
    rfl
theorem sD_lt {z : Int} {k : Nat} (h : (sD z).length ≤ k) : z.natAbs < 4294967296 ^ k := by
  have h1 := val_lt (sD_ok z)
  have h2 : val (sD z) = z.natAbs := val_dig _
  rw [h2] at h1
  exact Nat.lt_of_lt_of_le h1 (Nat.pow_le_pow_right (by decide) h)
theorem zn_sd (z : Int) : zn (sN z) z.natAbs = z := by
  have := sv_sd z
  rw [sv_zn] at this
  unfold sD at this
  rwa [val_dig] at this
theorem fmod_lt {a b : Int} (hb : b ≠ 0) : (Int.fmod a b).natAbs < b.natAbs := by
  have h0 : 0 < b.natAbs := by omega
  have hlt := Nat.mod_lt a.natAbs h0
  rw [← zn_sd a, ← zn_sd b]
  rw [show (zn (sN b) b.natAbs).natAbs = b.natAbs by unfold zn; split <;> simp]
  generalize sN a = n
  generalize sN b = m
  generalize a.natAbs = x at *
  generalize b.natAbs = y at *
  rcases Bool.eq_false_or_eq_true (n == m) with hnm | hnm
  · obtain rfl : n = m := by simpa using hnm
    obtain ⟨_, e2⟩ := fdiv_same n x y h0
    unfold zn
    rw [e2]
    cases n <;> simp <;> omega
  · obtain rfl : m = !n := by cases n <;> cases m <;> simp at hnm ⊢
    by_cases h : x % y = 0
    · obtain ⟨_, e2⟩ := fdiv_zero n x y h0 h
      unfold zn
      rw [e2]
      simpa using h0
    · obtain ⟨_, e2⟩ := fdiv_down n x y h0 h
      unfold zn
      rw [e2]
      cases n <;> simp <;> omega
theorem fmod_sign {a b : Int} (hb : b ≠ 0) (hr : Int.fmod a b ≠ 0) : sN (Int.fmod a b) = sN b := by
  have h0 : 0 < b.natAbs := by omega
  have hlt := Nat.mod_lt a.natAbs h0
  rw [← zn_sd a, ← zn_sd b] at hr ⊢
  generalize sN a = n at *
  generalize sN b = m at *
  generalize a.natAbs = x at *
  generalize b.natAbs = y at *
  have hm : sN (zn m y) = m := by
    unfold sN zn
    cases m <;> simp <;> omega
  rw [hm]
  rcases Bool.eq_false_or_eq_true (n == m) with hnm | hnm
  · obtain rfl : n = m := by simpa using hnm
    obtain ⟨_, e2⟩ := fdiv_same n x y h0
    unfold zn at hr ⊢
    rw [e2] at hr ⊢
    unfold sN
    cases n <;> simp at hr ⊢ <;> omega
  · obtain rfl : m = !n := by cases n <;> cases m <;> simp at hnm ⊢
    by_cases h : x % y = 0
    · obtain ⟨_, e2⟩ := fdiv_zero n x y h0 h
      unfold zn at hr
      rw [e2] at hr
      exact absurd rfl hr
    · obtain ⟨_, e2⟩ := fdiv_down n x y h0 h
      unfold zn at hr ⊢
      rw [e2] at hr ⊢
      unfold sN
      cases n <;> simp at hr ⊢ <;> omega
/-- All that the law asks of a division. -/
theorem back_div {a b : Int} (ha : (sD a).length ≤ 30) (hb : (sD b).length ≤ 30) (hne : b ≠ 0) :
    ∃ q r : Int, sdivR (sN a) (sD a) (sN b) (sD b) = (sN q, sD q, sN r, sD r, 0) ∧ smulR (sN q) (sD q) (sN b) (sD b) = (sN (q * b), sD (q * b), 0) ∧ saddR (sN (q * b)) (sD (q * b)) (sN r) (sD r) = (sN a, sD a, 0) ∧
      (sD r).length ≤ 30 ∧ (sD r ≠ [] → sN r = sN b) ∧ scmpR false (sD r) false (sD b) = (-1, 0) := by
  have la := sD_lt ha
  have lb := sD_lt hb
  have hr := fmod_lt (a := a) hne
  have e := Int.mul_fdiv_add_fmod a b
  have hq : (sD (Int.fdiv a b)).length ≤ 256 := by
    have h0 : 0 < b.natAbs := by omega
    have := fdiv_len (n := sN a) (m := sN b) (a := a.natAbs) (b := b.natAbs) h0 (Nat.lt_of_lt_of_le la (Nat.pow_le_pow_right (by decide) (by decide)))
    rwa [zn_sd, zn_sd] at this
  refine ⟨Int.fdiv a b, Int.fmod a b, ?_⟩
  have hsg := fmod_sign (a := a) hne
  generalize hQ : Int.fdiv a b = q at *
  generalize hR : Int.fmod a b = r at *
  have lr : (sD r).length ≤ 30 := sD_small (Nat.lt_trans hr lb)
  have lp : (sD (q * b)).length ≤ 31 := by
    refine sD_small ?_
    have h1 : (q * b).natAbs ≤ a.natAbs + r.natAbs := by rw [Int.mul_comm]; omega
    have h2 : (4294967296 : Nat) ^ 31 = 4294967296 ^ 30 * 4294967296 := Nat.pow_succ 4294967296 30
    generalize (4294967296 : Nat) ^ 30 = K at *
    omega
  refine ⟨?_, smul_sd hq (by omega) (by omega), ?_, lr, fun h => hsg (fun e0 => h (by rw [e0]; rfl)), ?_⟩
  · rw [sdiv_sd (by omega) (by omega) hne (by rw [hQ]; exact hq), hQ, hR]
    rfl
  · have := sadd_sd (a := q * b) (b := r) (by omega) (by omega) (by rw [show q * b + r = a by rw [Int.mul_comm]; exact e]; omega)
    rw [show q * b + r = a by rw [Int.mul_comm]; exact e] at this
    exact this
  · have h1 : sright false (sD r) = true := sright_of (right_dig' (by unfold sD at lr; omega)) (fun e => by cases e)
    have h2 : sright false (sD b) = true := sright_of (right_dig' (by unfold sD at hb; omega)) (fun e => by cases e)
    rw [scmpR_eq h1 h2]
    have e1 : sv false (sD r) = (r.natAbs : Int) := by unfold sv sD; rw [val_dig]; rfl
    have e2 : sv false (sD b) = (b.natAbs : Int) := by unfold sv sD; rw [val_dig]; rfl
    rw [e1, e2]
    unfold cmpZ
    rw [if_pos (by omega)]
theorem backT {n : Bool} {xs : List Nat} (ho : Ok xs) (h : sright n xs = true) (hl : xs.length ≤ 30) : ∃ tx, stextR n xs = (tx, 0) ∧ tx.length ≤ 1000 ∧ sparseR tx = (n, xs, 0) := by
  obtain ⟨z, rfl, rfl⟩ := sd_of ho h
  exact ⟨intS z, stext_sd (by omega), intS_len hl, sparse_int hl⟩
theorem backD {n m : Bool} {xs ys : List Nat} (ho : Ok xs) (ho' : Ok ys) (h : sright n xs = true) (h' : sright m ys = true) (hl : xs.length ≤ 30) (hl' : ys.length ≤ 30) (hne : ys ≠ []) :
    ∃ (qn : Bool) (qd : List Nat) (pn : Bool) (pd : List Nat) (rn : Bool) (rd : List Nat), sdivR n xs m ys = (qn, qd, rn, rd, 0) ∧ smulR qn qd m ys = (pn, pd, 0) ∧ saddR pn pd rn rd = (n, xs, 0) ∧ rd.length ≤ 30 ∧ (rd ≠ [] → rn = m) ∧ scmpR false rd false ys = (-1, 0) := by
  obtain ⟨z, rfl, rfl⟩ := sd_of ho h
  obtain ⟨b, rfl, rfl⟩ := sd_of ho' h'
  obtain ⟨q, r, h1, h2, h3, h4, h5, h6⟩ := back_div hl hl' (fun e => hne (sD_nil.2 e))
  exact ⟨_, _, _, _, _, _, h1, h2, h3, h4, h5, h6⟩
theorem stext_use {n : Bool} {A : Option Addr} {c : Nat} {xs : List Nat} {w : World} {l : List UInt8} {k : Int} (ha : Rd w A c xs) (h : stextR n xs = (l, k)) :
    Calls Try.prog 39 #[iv n A xs.length c] w fun e w' => e = .returned (.tuple #[.string ⟨l.toArray⟩, .int .i64 k]) ∧ Below w.heap.size w w' := by
  have := stext_any n A c xs w ha
  rw [h] at this
  exact this
theorem stext_back {n : Bool} {A : Option Addr} {c : Nat} {xs : List Nat} {w : World} {s : ByteArray} (ha : Rd w A c xs) (h : stextR n xs = (s.data.toList, 0)) :
    Calls Try.prog 39 #[iv n A xs.length c] w fun e w' => e = .returned (.tuple #[.string s, .int .i64 0]) ∧ Below w.heap.size w w' := by
  have := stext_use ha h
  rwa [bytes_eta] at this
theorem sparse_eq' {s : ByteArray} {r : R3} {w : World} (h : sparseR s.data.toList = r) (hs : s.size ≤ 1000000) : Calls Try.prog 41 #[.string s] w fun e w' => RetI w w' e r := by
  subst h
  exact sparse_any s w hs
theorem sparse_of' {l : List UInt8} {r : R3} {w : World} (h : sparseR l = r) (hs : l.length ≤ 1000) : Calls Try.prog 41 #[.string ⟨l.toArray⟩] w fun e w' => RetI w w' e r :=
  sparse_eq' (by simpa using h) (by show l.toArray.size ≤ 1000000; rw [List.size_toArray]; omega)
def right2R (n : Bool) (xs : List Nat) (m : Bool) (ys : List Nat) : Bool := sright n xs && sright m ys
theorem right2_any {w : World} {n m : Bool} {A B : Option Addr} {xs ys : List Nat} {c d g t : Nat} (hg : g = w.heap.size) (ha : Rd w A c xs) (hb : Rd w B d ys) :
    Calls Try.prog 20 #[.slice (some ⟨g, 0, none⟩) 2 2] (w.alloc (.cells #[.bool n, .slice A xs.length c, .bool m, .slice B ys.length d] t)) fun e w' => e = .returned (.bool (right2R n xs m ys)) ∧ Below w.heap.size w w' :=
  (rightL_any g 2 _ _ (by simp) (els2 hg ha hb)).mono fun _ _ ⟨h1, h2⟩ => ⟨by rw [h1]; simp [rightL, right2R], below_trans (below_alloc1 _ _) h2⟩
end Go.Proofs.Ytmhjjjffgpdolaa

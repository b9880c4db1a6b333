/-
  Fractions: plain laws. A fraction that may be is a Rat.
-/
import Derived.Test.YtlmgdhdakeekkaaSgF
set_option linter.unusedSimpArgs false
set_option linter.unusedVariables false
namespace Go.Proofs.Ytlmgdhdakeekkaa
open Go.RowKit Num

def qright (n : Bool) (xs : List Nat) (m : Bool) (ys : List Nat) : Bool :=
  sright n xs && (sright m ys && (decide (xs.length ≤ 64) && (decide (ys.length ≤ 64) && (!m && (decide (ys ≠ []) && decide (Nat.gcd (val xs) (val ys) = 1))))))
def toQ (n : Bool) (xs : List Nat) (m : Bool) (ys : List Nat) : Rat := Rat.divInt (sv n xs) (sv m ys)
def qok (q : Rat) : R5 := (sN q.num, sD q.num, false, dig q.den, 0)
def fitQ (q : Rat) : R5 := if (sD q.num).length ≤ 64 ∧ (dig q.den).length ≤ 64 then qok q else dbad 3
def qmakeR (n : Bool) (xs : List Nat) (m : Bool) (ys : List Nat) : R5 := if sright n xs && (sright m ys && decide (ys ≠ [])) then fitQ (toQ n xs m ys) else dbad 2
def Few (q : Rat) : Prop := (sD q.num).length ≤ 64 ∧ (dig q.den).length ≤ 64

theorem qright_iff {n m : Bool} {xs ys : List Nat} : qright n xs m ys = true ↔ sright n xs = true ∧ sright m ys = true ∧ xs.length ≤ 64 ∧ ys.length ≤ 64 ∧ m = false ∧ ys ≠ [] ∧ Nat.gcd (val xs) (val ys) = 1 := by
  simp only [qright, Bool.and_eq_true, decide_eq_true_eq, Bool.not_eq_true']
theorem rat_of {n m : Bool} {xs ys : List Nat} (ho : Ok xs) (ho' : Ok ys) (h : qright n xs m ys = true) : ∃ q : Rat, n = sN q.num ∧ xs = sD q.num ∧ m = false ∧ ys = dig q.den ∧ Few q := by
  obtain ⟨h1, h2, h3, h4, h5, h6, h7⟩ := qright_iff.1 h
  have hv := val_pos_right ho' (sright_rightB h2) h6
  have hd := right_dig ho' (sright_rightB h2)
  refine ⟨⟨sv n xs, val ys, Nat.pos_iff_ne_zero.1 hv, by rw [sv_abs]; exact h7⟩, (sv_neg ho h1).symm, (sv_dig ho h1).symm, h5, hd.symm, ?_, ?_⟩
  · show (sD (sv n xs)).length ≤ 64
    rw [sv_dig ho h1]
    exact h3
  · show (dig (val ys)).length ≤ 64
    rw [hd]
    exact h4
theorem sv_den (q : Rat) : sv false (dig q.den) = (q.den : Int) := by unfold sv; rw [val_dig]; rfl
theorem den_ne (q : Rat) : dig q.den ≠ [] := fun h => q.den_nz (by rw [← val_dig q.den, h]; rfl)
theorem sright_den {q : Rat} (h : Few q) : sright false (dig q.den) = true := sright_of (right_dig' (by have := h.2; omega)) (fun e => by cases e)
theorem sright_num {q : Rat} (h : Few q) : sright (sN q.num) (sD q.num) = true := sright_sd (by have := h.1; omega)
theorem qright_rat {q : Rat} (h : Few q) : qright (sN q.num) (sD q.num) false (dig q.den) = true :=
  qright_iff.2 ⟨sright_num h, sright_den h, h.1, h.2, rfl, den_ne q, by unfold sD; rw [val_dig, val_dig]; exact q.reduced⟩
theorem toQ_rat (q : Rat) : toQ (sN q.num) (sD q.num) false (dig q.den) = q := by
  unfold toQ
  rw [sv_sd, sv_den]
  exact Rat.num_divInt_den q
theorem sD_cast (k : Nat) : sD (k : Int) = dig k := rfl
theorem sN_cast (k : Nat) : sN (k : Int) = false := by unfold sN; simp
/-- What two numbers and their fraction have in common. -/
theorem divInt_parts {a b : Int} (hb : b ≠ 0) : ∃ m : Int, m ≠ 0 ∧ a = (Rat.divInt a b).num * m ∧ b = (Rat.divInt a b).den * m ∧ Nat.gcd a.natAbs b.natAbs = m.natAbs ∧ (b < 0 ↔ m < 0) := by
  obtain ⟨m, h1, h2, h3⟩ := Rat.divInt_num_den (n := a) (d := b) (n' := (Rat.divInt a b).num) (d' := (Rat.divInt a b).den) (z' := (Rat.divInt a b).den_nz) (c := (Rat.divInt a b).reduced) hb rfl
  refine ⟨m, h1, h2, h3, ?_, ?_⟩
  · have h4 : a.natAbs = (Rat.divInt a b).num.natAbs * m.natAbs := by rw [← Int.natAbs_mul, ← h2]
    have h5 : b.natAbs = (Rat.divInt a b).den * m.natAbs := by
      have := congrArg Int.natAbs h3
      rw [Int.natAbs_mul, Int.natAbs_natCast] at this
      exact this
    rw [h4, h5, Nat.gcd_mul_right, (Rat.divInt a b).reduced, Nat.one_mul]
  · have hd : (0 : Int) < (Rat.divInt a b).den := by have := (Rat.divInt a b).den_pos; omega
    constructor
    · intro h
      rcases Int.lt_trichotomy m 0 with h6 | h6 | h6
      · exact h6
      · exact absurd h6 h1
      · have := Int.mul_pos hd h6
        omega
    · intro h
      rw [h3]
      exact Int.mul_neg_of_pos_of_neg hd h
theorem fdiv_mul {a m : Int} (h : m ≠ 0) : Int.fdiv (a * m) m = a ∧ Int.fmod (a * m) m = 0 := by
  have h1 : Int.fdiv (a * m) m = a := Int.mul_fdiv_cancel a h
  have := Int.mul_fdiv_add_fmod (a * m) m
  rw [h1, Int.mul_comm m a] at this
  exact ⟨h1, by omega⟩
theorem abs_le_mul {a m : Int} (h : m ≠ 0) : a.natAbs ≤ (a * m).natAbs := by
  rw [Int.natAbs_mul]
  exact Nat.le_mul_of_pos_right _ (by omega)
theorem abs_le_mul' {a m : Int} (h : a ≠ 0) : m.natAbs ≤ (a * m).natAbs := by
  rw [Int.natAbs_mul]
  exact Nat.le_mul_of_pos_left _ (by omega)
theorem sdiv_exact {a m : Int} (h : m ≠ 0) (hm : (sD m).length ≤ 256) (hl : (sD (a * m)).length ≤ 256) : sdivR (sN (a * m)) (sD (a * m)) (sN m) (sD m) = (sN a, sD a, false, [], 0) := by
  obtain ⟨h1, h2⟩ := fdiv_mul (a := a) h
  have := sdiv_sd hl hm h (by rw [h1]; exact Nat.le_trans (dig_len_mono (abs_le_mul h)) hl)
  rw [h1, h2] at this
  exact this
/-- All that making a fraction asks, as the program and as the document does. -/
theorem make_facts {n m : Bool} {xs ys : List Nat} (ho : Ok xs) (ho' : Ok ys) (h1 : sright n xs = true) (h2 : sright m ys = true) (hne : ys ≠ []) : ∃ gd : List Nat, sgcdR n xs m ys = (false, gd, 0) ∧ snegR false gd = (true, gd, 0) ∧
    sdivR n xs m gd = (sN (toQ n xs m ys).num, sD (toQ n xs m ys).num, false, [], 0) ∧ sdivR m ys m gd = (false, dig (toQ n xs m ys).den, false, [], 0) ∧
    sdivR n xs false gd = (sN (if m then -(toQ n xs m ys).num else (toQ n xs m ys).num), sD (toQ n xs m ys).num, false, [], 0) ∧ sdivR m ys false gd = (m, dig (toQ n xs m ys).den, false, [], 0) ∧
    snegR (sN (-(toQ n xs m ys).num)) (sD (toQ n xs m ys).num) = (sN (toQ n xs m ys).num, sD (toQ n xs m ys).num, 0) ∧ snegR true (dig (toQ n xs m ys).den) = (false, dig (toQ n xs m ys).den, 0) ∧
    (sD (toQ n xs m ys).num).length ≤ 256 ∧ (dig (toQ n xs m ys).den).length ≤ 256 := by
  have hv := val_pos_right ho' (sright_rightB h2) hne
  have lx : xs.length ≤ 256 := by have := sright_rightB h1; unfold rightB at this; simp at this; omega
  have ly : ys.length ≤ 256 := by have := sright_rightB h2; unfold rightB at this; simp at this; omega
  have hb : sv m ys ≠ 0 := by have := sv_abs m ys; omega
  have hG := sgcdR_eq h1 h2
  unfold toQ
  obtain ⟨k, hk, ea, eb, eg, es⟩ := divInt_parts (a := sv n xs) hb
  have en := sv_neg ho h1
  have ex := sv_dig ho h1
  have em := sv_neg ho' h2
  have ey := sv_dig ho' h2
  generalize Rat.divInt (sv n xs) (sv m ys) = q at *
  rw [sv_abs, sv_abs] at eg
  rw [eg] at hG
  generalize sv n xs = a at *
  generalize sv m ys = b at *
  subst en ex em ey
  have hd : (q.den : Int) ≠ 0 := by have := q.den_nz; omega
  subst ea eb
  have lk : (sD k).length ≤ 256 := Nat.le_trans (dig_len_mono (abs_le_mul' hd)) ly
  have lq : (sD q.num).length ≤ 256 := Nat.le_trans (dig_len_mono (abs_le_mul hk)) lx
  have ld : (sD (q.den : Int)).length ≤ 256 := Nat.le_trans (dig_len_mono (abs_le_mul hk)) ly
  have eN : sN (q.den * k) = sN k := by unfold sN; rw [decide_eq_decide]; exact es
  have ka : sD (k.natAbs : Int) = sD k := by unfold sD; simp
  have hk2 : (k.natAbs : Int) ≠ 0 := by omega
  have nk : sN (k.natAbs : Int) = false := sN_cast _
  refine ⟨sD k, ?_, ?_, ?_, ?_, ?_, ?_, ?_, ?_, lq, ld⟩
  · rw [hG]
    unfold sok
    rw [nk, ka]
  · have h := sright_sd (z := (k.natAbs : Int)) (by rw [ka]; exact lk)
    rw [nk, ka] at h
    unfold snegR
    rw [if_pos h]
    have e : sv false (sD k) = (k.natAbs : Int) := by unfold sv sD; rw [val_dig]; rfl
    rw [e]
    unfold sok
    rw [sD_neg, ka]
    unfold sN
    rw [decide_eq_true (by omega)]
  · rw [eN]
    exact sdiv_exact hk lk lx
  · have e := sdiv_exact (a := (q.den : Int)) hk lk ly
    rw [← eN] at e
    rw [sN_cast] at e
    exact e
  · rw [eN]
    have e : q.num * k = (if sN k then -q.num else q.num) * (k.natAbs : Int) := by
      unfold sN
      by_cases h : k < 0
      · rw [decide_eq_true h, if_pos rfl, show (k.natAbs : Int) = -k by omega, Int.neg_mul_neg]
      · rw [decide_eq_false h, if_neg (by simp), show (k.natAbs : Int) = k by omega]
    have l2 := lx
    rw [e] at l2 ⊢
    have := sdiv_exact (a := (if sN k then -q.num else q.num)) hk2 (by rw [ka]; exact lk) l2
    rw [nk, ka] at this
    rw [this]
    congr 2
    split
    · exact sD_neg _
    · rfl
  · have e : (q.den : Int) * k = (if sN k then -(q.den : Int) else q.den) * (k.natAbs : Int) := by
      unfold sN
      by_cases h : k < 0
      · rw [decide_eq_true h, if_pos rfl, show (k.natAbs : Int) = -k by omega, Int.neg_mul_neg]
      · rw [decide_eq_false h, if_neg (by simp), show (k.natAbs : Int) = k by omega]
    have l2 := ly
    rw [e] at l2
    have := sdiv_exact (a := (if sN k then -(q.den : Int) else q.den)) hk2 (by rw [ka]; exact lk) l2
    rw [nk, ka, ← e] at this
    rw [this, eN]
    have hp := q.den_pos
    congr 1
    · unfold sN
      by_cases h : k < 0
      · rw [decide_eq_true h, if_pos rfl, decide_eq_true (by omega)]
      · rw [decide_eq_false h, if_neg (by simp), decide_eq_false (by omega)]
    · congr 1
      split
      · exact sD_neg _
      · rfl
  · have h := sright_sd (z := -q.num) (by rw [sD_neg]; exact lq)
    have e := sv_sd (-q.num)
    rw [sD_neg] at h e
    unfold snegR
    rw [if_pos h, e, Int.neg_neg]
    rfl
  · have hp := q.den_pos
    have h := sright_sd (z := -(q.den : Int)) (by rw [sD_neg]; exact ld)
    have e := sv_sd (-(q.den : Int))
    have hn : sN (-(q.den : Int)) = true := by unfold sN; exact decide_eq_true (by omega)
    rw [sD_neg, hn] at h e
    have e2 : sD (q.den : Int) = dig q.den := rfl
    rw [e2] at h e
    unfold snegR
    rw [if_pos h, e, Int.neg_neg]
    unfold sok
    rw [sN_cast, e2]
/-- The sizes of sums and products. -/
def qsum (a b : Rat) : Int × Int := (a.num * b.den + b.num * a.den, (a.den : Int) * b.den)
theorem add_make (a b : Rat) : Rat.divInt (a.num * b.den + b.num * a.den) ((a.den : Int) * b.den) = a + b := by
  rw [Rat.add_def', ← Rat.divInt_ofNat]
  simp
theorem mul_make (a b : Rat) : Rat.divInt (a.num * b.num) ((a.den : Int) * b.den) = a * b := by
  rw [Rat.mul_def', ← Rat.divInt_ofNat]
  simp
theorem div_make (a b : Rat) : Rat.divInt (a.num * b.den) ((a.den : Int) * b.num) = a / b := by
  rw [Rat.div_def, Rat.inv_def]
  conv => rhs; rw [← Rat.num_divInt_den a]
  rw [Rat.divInt_mul_divInt]
theorem cmp_make (a b : Rat) : cmpZ (a.num * b.den) (b.num * a.den) = if a < b then -1 else if b < a then 1 else 0 := by
  unfold cmpZ
  simp only [Rat.lt_iff]
def isR (n : Bool) (xs : List Nat) (z : Int) : Bool := decide ((ssmallR n xs).2 = 0) && decide ((ssmallR n xs).1 = z)
theorem isR_dig {g : Nat} (h : (dig g).length ≤ 256) : isR false (dig g) 1 = decide (g = 1) := by
  have hr : sright false (dig g) = true := sright_of (right_dig' h) (fun e => by cases e)
  have hv : sv false (dig g) = (g : Int) := by unfold sv; rw [val_dig]; rfl
  unfold isR ssmallR
  rw [if_pos hr, hv]
  by_cases hg : (-9223372036854775808 : Int) ≤ g ∧ (g : Int) < 9223372036854775808
  · rw [if_pos hg]
    simp
    omega
  · rw [if_neg hg]
    simp
    omega
theorem gcd_len2 {xs ys : List Nat} (hx : Ok xs) (hy : Ok ys) (h1 : xs.length ≤ 256) (h2 : ys.length ≤ 256) : (dig (Nat.gcd (val xs) (val ys))).length ≤ 256 := by
  rcases Nat.eq_zero_or_pos (val xs) with h0 | h0
  · rw [h0, Nat.gcd_zero_left]
    exact Nat.le_trans (dig_len_le ys hy) h2
  · exact Nat.le_trans (Nat.le_trans (dig_len_mono (Nat.gcd_le_left _ h0)) (dig_len_le xs hx)) h1
theorem sright_len {n : Bool} {xs : List Nat} (h : sright n xs = true) : xs.length ≤ 256 := by have := sright_rightB h; unfold rightB at this; simp at this; omega
theorem sgcd_sok {n m : Bool} {xs ys : List Nat} (h1 : sright n xs = true) (h2 : sright m ys = true) : sgcdR n xs m ys = (false, dig (Nat.gcd (val xs) (val ys)), 0) := by
  rw [sgcdR_eq h1 h2]
  unfold sok
  rw [sN_cast, sD_cast]
theorem one_dig (g : Nat) : (dig g = [1]) ↔ g = 1 := by
  constructor
  · intro h
    have := val_dig g
    rw [h] at this
    simpa [val] using this.symm
  · rintro rfl
    rfl
theorem sD_ltQ {z : Int} {k : Nat} (h : (sD z).length ≤ k) : z.natAbs < 4294967296 ^ k := by
  have h1 := val_lt (sD_ok z)
  have h2 : val (sD z) = z.natAbs := val_dig _
  rw [h2] at h1
  exact Nat.lt_of_lt_of_le h1 (Nat.pow_le_pow_right (by decide) h)
theorem sD_addQ {a b : Int} {k : Nat} (ha : (sD a).length ≤ k) (hb : (sD b).length ≤ k) : (sD (a + b)).length ≤ k + 1 := by
  have la := sD_ltQ ha
  have lb := sD_ltQ hb
  refine sD_small ?_
  rw [Nat.pow_succ]
  generalize (4294967296 : Nat) ^ k = K at *
  omega
theorem sD_mulQ {a b : Int} {k l : Nat} (ha : (sD a).length ≤ k) (hb : (sD b).length ≤ l) : (sD (a * b)).length ≤ k + l := by
  have la := sD_ltQ ha
  have lb := sD_ltQ hb
  refine sD_small ?_
  rw [Nat.pow_add, Int.natAbs_mul]
  exact Nat.mul_lt_mul_of_lt_of_le (Nat.lt_of_lt_of_le la (Nat.le_refl _)) (Nat.le_of_lt lb) (Nat.lt_of_le_of_lt (Nat.zero_le _) lb)
theorem saddQ {a b : Int} (ha : (sD a).length ≤ 256) (hb : (sD b).length ≤ 256) (hs : (sD (a + b)).length ≤ 256) : saddR (sN a) (sD a) (sN b) (sD b) = (sN (a + b), sD (a + b), 0) := by
  rw [saddR_eq (sright_sd ha) (sright_sd hb), sv_sd, sv_sd, sfit_of hs]
  rfl
theorem smulQ {a b : Int} (ha : (sD a).length ≤ 256) (hb : (sD b).length ≤ 256) (hs : (sD (a * b)).length ≤ 256) : smulR (sN a) (sD a) (sN b) (sD b) = (sN (a * b), sD (a * b), 0) := by
  rw [smulR_eq (sright_sd ha) (sright_sd hb), sv_sd, sv_sd, sfit_of hs]
  rfl
theorem make_sd {a b : Int} (ha : (sD a).length ≤ 256) (hb : (sD b).length ≤ 256) (hne : b ≠ 0) : qmakeR (sN a) (sD a) (sN b) (sD b) = fitQ (Rat.divInt a b) := by
  unfold qmakeR toQ
  rw [sright_sd ha, sright_sd hb, sv_sd, sv_sd, decide_eq_true (p := sD b ≠ []) (fun e => hne (sD_nil.1 e))]
  rfl
theorem toQ_of {n m : Bool} {xs ys : List Nat} {q : Rat} (h1 : n = sN q.num) (h2 : xs = sD q.num) (h3 : m = false) (h4 : ys = dig q.den) : toQ n xs m ys = q := by subst h1 h2 h3 h4; exact toQ_rat q
/-- What two fractions' numbers have: products and sums that fit. -/
def QF (an : Bool) (ad : List Nat) : Prop := sright an ad = true
theorem add_facts {n m n' m' : Bool} {xs ys xs' ys' : List Nat} (ox : Ok xs) (oy : Ok ys) (ox' : Ok xs') (oy' : Ok ys') (h : qright n xs m ys = true) (h' : qright n' xs' m' ys' = true) :
    ∃ (an : Bool) (ad : List Nat) (bn : Bool) (bd : List Nat) (sn : Bool) (sd : List Nat) (dn : Bool) (dd : List Nat), smulR n xs m' ys' = (an, ad, 0) ∧ smulR n' xs' m ys = (bn, bd, 0) ∧ saddR an ad bn bd = (sn, sd, 0) ∧ smulR m ys m' ys' = (dn, dd, 0) ∧
      qmakeR sn sd dn dd = fitQ (toQ n xs m ys + toQ n' xs' m' ys') ∧ sright an ad = true ∧ sright bn bd = true ∧ sright sn sd = true ∧ sright dn dd = true ∧ dd ≠ [] ∧ scmpR an ad bn bd = (cmpZ ((toQ n xs m ys).num * (toQ n' xs' m' ys').den) ((toQ n' xs' m' ys').num * (toQ n xs m ys).den), 0) := by
  obtain ⟨p, e1, e2, e3, e4, f1, f2⟩ := rat_of ox oy h
  obtain ⟨q, g1, g2, g3, g4, k1, k2⟩ := rat_of ox' oy' h'
  rw [toQ_of e1 e2 e3 e4, toQ_of g1 g2 g3 g4]
  subst e1 e2 e3 e4 g1 g2 g3 g4
  have pd : (sD (p.den : Int)).length ≤ 64 := f2
  have qd : (sD (q.den : Int)).length ≤ 64 := k2
  have l1 := sD_mulQ f1 qd
  have l2 := sD_mulQ k1 pd
  have l3 := sD_mulQ pd qd
  have l4 := sD_addQ l1 l2
  have m1 := smulQ (a := p.num) (b := (q.den : Int)) (by omega) (by omega) (by omega)
  have m2 := smulQ (a := q.num) (b := (p.den : Int)) (by omega) (by omega) (by omega)
  have m3 := smulQ (a := (p.den : Int)) (b := (q.den : Int)) (by omega) (by omega) (by omega)
  rw [sN_cast] at m1 m2
  rw [sN_cast, sN_cast] at m3
  have hp := p.den_nz
  have hq := q.den_nz
  have hne : (p.den : Int) * q.den ≠ 0 := Int.mul_ne_zero (by omega) (by omega)
  refine ⟨_, _, _, _, _, _, _, _, m1, m2, saddQ (by omega) (by omega) (by omega), m3, ?_, sright_sd (by omega), sright_sd (by omega), sright_sd (by omega), sright_sd (by omega), fun e => hne (sD_nil.1 e), ?_⟩
  · rw [make_sd (by omega) (by omega) hne, add_make]
  · rw [scmpR_eq (sright_sd (by omega)) (sright_sd (by omega)), sv_sd, sv_sd]
theorem mul_facts {n m n' m' : Bool} {xs ys xs' ys' : List Nat} (ox : Ok xs) (oy : Ok ys) (ox' : Ok xs') (oy' : Ok ys') (h : qright n xs m ys = true) (h' : qright n' xs' m' ys' = true) :
    ∃ (an : Bool) (ad : List Nat) (dn : Bool) (dd : List Nat), smulR n xs n' xs' = (an, ad, 0) ∧ smulR m ys m' ys' = (dn, dd, 0) ∧
      qmakeR an ad dn dd = fitQ (toQ n xs m ys * toQ n' xs' m' ys') ∧ sright an ad = true ∧ sright dn dd = true ∧ dd ≠ [] := by
  obtain ⟨p, e1, e2, e3, e4, f1, f2⟩ := rat_of ox oy h
  obtain ⟨q, g1, g2, g3, g4, k1, k2⟩ := rat_of ox' oy' h'
  rw [toQ_of e1 e2 e3 e4, toQ_of g1 g2 g3 g4]
  subst e1 e2 e3 e4 g1 g2 g3 g4
  have pd : (sD (p.den : Int)).length ≤ 64 := f2
  have qd : (sD (q.den : Int)).length ≤ 64 := k2
  have l1 := sD_mulQ f1 k1
  have l3 := sD_mulQ pd qd
  have m1 := smulQ (a := p.num) (b := q.num) (by omega) (by omega) (by omega)
  have m3 := smulQ (a := (p.den : Int)) (b := (q.den : Int)) (by omega) (by omega) (by omega)
  rw [sN_cast, sN_cast] at m3
  have hp := p.den_nz
  have hq := q.den_nz
  have hne : (p.den : Int) * q.den ≠ 0 := Int.mul_ne_zero (by omega) (by omega)
  refine ⟨_, _, _, _, m1, m3, ?_, sright_sd (by omega), sright_sd (by omega), fun e => hne (sD_nil.1 e)⟩
  rw [make_sd (by omega) (by omega) hne, mul_make]
theorem div_facts {n m n' m' : Bool} {xs ys xs' ys' : List Nat} (ox : Ok xs) (oy : Ok ys) (ox' : Ok xs') (oy' : Ok ys') (h : qright n xs m ys = true) (h' : qright n' xs' m' ys' = true) (hx : xs' ≠ []) :
    ∃ (an : Bool) (ad : List Nat) (dn : Bool) (dd : List Nat), smulR n xs m' ys' = (an, ad, 0) ∧ smulR m ys n' xs' = (dn, dd, 0) ∧
      qmakeR an ad dn dd = fitQ (toQ n xs m ys / toQ n' xs' m' ys') ∧ sright an ad = true ∧ sright dn dd = true ∧ dd ≠ [] := by
  obtain ⟨p, e1, e2, e3, e4, f1, f2⟩ := rat_of ox oy h
  obtain ⟨q, g1, g2, g3, g4, k1, k2⟩ := rat_of ox' oy' h'
  rw [toQ_of e1 e2 e3 e4, toQ_of g1 g2 g3 g4]
  subst e1 e2 e3 e4 g1 g2 g3 g4
  have pd : (sD (p.den : Int)).length ≤ 64 := f2
  have qd : (sD (q.den : Int)).length ≤ 64 := k2
  have l1 := sD_mulQ f1 qd
  have l3 := sD_mulQ pd k1
  have m1 := smulQ (a := p.num) (b := (q.den : Int)) (by omega) (by omega) (by omega)
  have m3 := smulQ (a := (p.den : Int)) (b := q.num) (by omega) (by omega) (by omega)
  rw [sN_cast] at m1 m3
  have hp := p.den_nz
  have hne : (p.den : Int) * q.num ≠ 0 := Int.mul_ne_zero (by omega) (fun e => hx (sD_nil.2 e))
  refine ⟨_, _, _, _, m1, m3, ?_, sright_sd (by omega), sright_sd (by omega), fun e => hne (sD_nil.1 e)⟩
  rw [make_sd (by omega) (by omega) hne, div_make]
/-- What each operation tells. -/
def qaddR (n : Bool) (xs : List Nat) (m : Bool) (ys : List Nat) (n' : Bool) (xs' : List Nat) (m' : Bool) (ys' : List Nat) : R5 := if qright n xs m ys && qright n' xs' m' ys' then fitQ (toQ n xs m ys + toQ n' xs' m' ys') else dbad 2
def qmulR (n : Bool) (xs : List Nat) (m : Bool) (ys : List Nat) (n' : Bool) (xs' : List Nat) (m' : Bool) (ys' : List Nat) : R5 := if qright n xs m ys && qright n' xs' m' ys' then fitQ (toQ n xs m ys * toQ n' xs' m' ys') else dbad 2
def qdivR (n : Bool) (xs : List Nat) (m : Bool) (ys : List Nat) (n' : Bool) (xs' : List Nat) (m' : Bool) (ys' : List Nat) : R5 := if qright n xs m ys && (qright n' xs' m' ys' && decide (xs' ≠ [])) then fitQ (toQ n xs m ys / toQ n' xs' m' ys') else dbad 2
def cmpQ (a b : Rat) : Int := if a < b then -1 else if b < a then 1 else 0
def qcmpR (n : Bool) (xs : List Nat) (m : Bool) (ys : List Nat) (n' : Bool) (xs' : List Nat) (m' : Bool) (ys' : List Nat) : Int × Int := if qright n xs m ys && qright n' xs' m' ys' then (cmpQ (toQ n xs m ys) (toQ n' xs' m' ys'), 0) else (0, 2)
def qnegR (n : Bool) (xs : List Nat) (m : Bool) (ys : List Nat) : R5 := if qright n xs m ys then qok (-(toQ n xs m ys)) else dbad 2
def qfloorR (n : Bool) (xs : List Nat) (m : Bool) (ys : List Nat) : R3 := if qright n xs m ys then sok (toQ n xs m ys).floor else sbad 2
def qceilR (n : Bool) (xs : List Nat) (m : Bool) (ys : List Nat) : R3 := if qright n xs m ys then sok (toQ n xs m ys).ceil else sbad 2
def qtextR (n : Bool) (xs : List Nat) (m : Bool) (ys : List Nat) : List UInt8 × Int := if qright n xs m ys then (if ys = [1] then intS (sv n xs) else intS (sv n xs) ++ 47 :: intS (sv m ys), 0) else ([], 2)
theorem neg_facts {n m : Bool} {xs ys : List Nat} (ox : Ok xs) (oy : Ok ys) (h : qright n xs m ys = true) : ∃ nn : Bool, snegR n xs = (nn, xs, 0) ∧ qnegR n xs m ys = (nn, xs, m, ys, 0) ∧ saddR m ys false [] = (m, ys, 0) := by
  obtain ⟨h1, h2, h3, h4, h5, h6, h7⟩ := qright_iff.1 h
  obtain ⟨p, e1, e2, e3, e4, f1, f2⟩ := rat_of ox oy h
  refine ⟨sN (-p.num), ?_, ?_, ?_⟩
  · unfold snegR
    rw [if_pos h1, e1, e2, sv_sd]
    unfold sok
    rw [sD_neg]
  · unfold qnegR
    rw [if_pos h, toQ_of e1 e2 e3 e4]
    unfold qok
    rw [Rat.neg_num, Rat.neg_den, sD_neg, ← e2, ← e4, e3]
  · rw [saddR_eq h2 rfl]
    have e : sv false [] = 0 := rfl
    rw [e, Int.add_zero, sfit_of (by rw [sv_dig oy h2]; exact sright_len h2)]
    unfold sok
    rw [sv_neg oy h2, sv_dig oy h2]
theorem fdiv_lenQ {n m : Bool} {a b : Nat} (hb : 0 < b) (ha : a < 4294967296 ^ 100) : (sD (Int.fdiv (zn n a) (zn m b))).length ≤ 256 := by
  have h1 : a / b ≤ a := Nat.div_le_self _ _
  have hq : (dig (a / b)).length ≤ 256 := Nat.le_trans (dig_length_le (Nat.lt_of_le_of_lt h1 ha)) (by decide)
  have hq1 : (dig (a / b + 1)).length ≤ 256 := Nat.le_trans (sum_len (k := 100) (Nat.lt_of_le_of_lt h1 ha) (by decide)) (by decide)
  rcases Bool.eq_false_or_eq_true (n == m) with hnm | hnm
  · obtain rfl : n = m := by simpa using hnm
    obtain ⟨e1, _⟩ := fdiv_same n a b hb
    unfold zn
    rw [e1]
    exact hq
  · obtain rfl : m = !n := by cases n <;> cases m <;> simp at hnm ⊢
    by_cases h : a % b = 0
    · obtain ⟨e1, _⟩ := fdiv_zero n a b hb h
      unfold zn
      rw [e1, sD_neg]
      exact hq
    · obtain ⟨e1, _⟩ := fdiv_down n a b hb h
      unfold zn
      rw [e1, sD_neg]
      exact hq1
theorem floor_facts {n m : Bool} {xs ys : List Nat} (ox : Ok xs) (oy : Ok ys) (h : qright n xs m ys = true) : ∃ (rn : Bool) (rd : List Nat), sdivR n xs m ys = ((qfloorR n xs m ys).1, (qfloorR n xs m ys).2.1, rn, rd, 0) ∧ (qfloorR n xs m ys).2.2 = 0 := by
  obtain ⟨p, e1, e2, e3, e4, f1, f2⟩ := rat_of ox oy h
  unfold qfloorR
  rw [if_pos h, toQ_of e1 e2 e3 e4, Rat.floor_def]
  subst e1 e2 e3 e4
  have pd : (sD (p.den : Int)).length ≤ 64 := f2
  have hp := p.den_pos
  have hl : (sD (Int.fdiv p.num p.den)).length ≤ 256 := by
    have := fdiv_lenQ (n := sN p.num) (m := false) (a := p.num.natAbs) (b := p.den) hp (Nat.lt_of_lt_of_le (sD_ltQ f1) (Nat.pow_le_pow_right (by decide) (by decide)))
    have e := sv_sd p.num
    rw [sv_zn] at e
    unfold sD at e
    rw [val_dig] at e
    rw [e] at this
    exact this
  have := sdiv_sd (a := p.num) (b := (p.den : Int)) (by omega) (by omega) (by omega) hl
  rw [sN_cast] at this
  rw [show p.num / (p.den : Int) = Int.fdiv p.num p.den from (Int.fdiv_eq_ediv_of_nonneg _ (by omega)).symm]
  exact ⟨sN (p.num.fmod p.den), sD (p.num.fmod p.den), this, rfl⟩
theorem qright_neg {n m : Bool} {xs ys : List Nat} (ox : Ok xs) (oy : Ok ys) (h : qright n xs m ys = true) {nn : Bool} (hn : snegR n xs = (nn, xs, 0)) : qright nn xs m ys = true ∧ toQ nn xs m ys = -(toQ n xs m ys) := by
  obtain ⟨h1, h2, h3, h4, h5, h6, h7⟩ := qright_iff.1 h
  obtain ⟨p, e1, e2, e3, e4, f1, f2⟩ := rat_of ox oy h
  have e5 : nn = sN (-p.num) := by
    have := congrArg (fun r : R3 => r.1) hn
    unfold snegR at this
    rw [if_pos h1, e1, e2, sv_sd] at this
    exact this.symm
  have hr := qright_rat (q := -p) ⟨by rw [Rat.neg_num, sD_neg]; exact f1, by rw [Rat.neg_den]; exact f2⟩
  rw [Rat.neg_num, Rat.neg_den, sD_neg, ← e2, ← e4, ← e3, ← e5] at hr
  refine ⟨hr, ?_⟩
  rw [toQ_of e1 e2 e3 e4, toQ_of (q := -p) (by rw [Rat.neg_num]; exact e5) (by rw [Rat.neg_num, sD_neg]; exact e2) e3 (by rw [Rat.neg_den]; exact e4)]
theorem sneg_sdQ {a : Int} (ha : (sD a).length ≤ 256) : snegR (sN a) (sD a) = (sN (-a), sD (-a), 0) := by
  unfold snegR
  rw [if_pos (sright_sd ha), sv_sd]
  rfl
theorem sdivR_lenQ (n m : Bool) (xs ys : List Nat) : (sdivR n xs m ys).2.1.length ≤ 256 := by
  unfold sdivR
  split
  · split
    · rename_i h2
      exact h2
    · exact Nat.zero_le _
  · exact Nat.zero_le _
theorem ceil_facts {n m : Bool} {xs ys : List Nat} (ox : Ok xs) (oy : Ok ys) (h : qright n xs m ys = true) : ∃ (nn : Bool) (qn : Bool) (qd : List Nat) (rn : Bool) (rd : List Nat) (cn : Bool) (cd : List Nat),
    qnegR n xs m ys = (nn, xs, m, ys, 0) ∧ sdivR nn xs m ys = (qn, qd, rn, rd, 0) ∧ snegR qn qd = (cn, cd, 0) ∧ qceilR n xs m ys = (cn, cd, 0) := by
  obtain ⟨nn, e1, e2, _⟩ := neg_facts ox oy h
  obtain ⟨g1, g2⟩ := qright_neg ox oy h e1
  obtain ⟨rn, rd, k1, k2⟩ := floor_facts ox oy g1
  have hl := sdivR_lenQ nn m xs ys
  rw [k1] at hl
  have hf : qfloorR nn xs m ys = sok (-(toQ n xs m ys)).floor := by unfold qfloorR; rw [if_pos g1, g2]
  rw [hf] at k1 hl
  refine ⟨nn, sN (-(toQ n xs m ys)).floor, sD (-(toQ n xs m ys)).floor, rn, rd, sN (-(-(toQ n xs m ys)).floor), sD (-(-(toQ n xs m ys)).floor), e2, k1, ?_, ?_⟩
  · exact sneg_sdQ (a := (-(toQ n xs m ys)).floor) hl
  · unfold qceilR
    rw [if_pos h, Rat.ceil_eq_neg_floor_neg]
    rfl
theorem den_is {n m : Bool} {xs ys : List Nat} (oy : Ok ys) (h : qright n xs m ys = true) : isR m ys 1 = decide (ys = [1]) := by
  obtain ⟨h1, h2, h3, h4, h5, h6, h7⟩ := qright_iff.1 h
  have hd := right_dig oy (sright_rightB h2)
  rw [h5]
  have := isR_dig (g := val ys) (by rw [hd]; omega)
  rw [hd] at this
  rw [this, decide_eq_decide]
  have h8 := one_dig (val ys)
  rw [hd] at h8
  exact h8.symm
theorem intS_lenQ {n : Bool} {xs : List Nat} (ox : Ok xs) (h : sright n xs = true) : (intS (sv n xs)).length ≤ 2562 := by
  have := decS_len256 ox (sright_rightB h)
  unfold intS
  rw [sv_abs]
  split
  · simp
    omega
  · omega
theorem stext_ok {n : Bool} {xs : List Nat} (h : sright n xs = true) : stextR n xs = (intS (sv n xs), 0) := by unfold stextR; rw [if_pos h]
theorem cat47 (l k : List UInt8) : ((⟨l.toArray⟩ : ByteArray) ++ ⟨#[47]⟩) ++ (⟨k.toArray⟩ : ByteArray) = ⟨(l ++ 47 :: k).toArray⟩ := by
  apply ByteArray.ext
  simp
theorem neg_ediv_up {a b : Int} (hb : 0 < b) (h : a % b ≠ 0) : -((-a) / b) = a / b + 1 := by
  have h1 := Int.mul_ediv_add_emod a b
  have h2 := Int.emod_nonneg a (by omega : b ≠ 0)
  have h3 := Int.emod_lt_of_pos a hb
  have := (Int.ediv_emod_unique (a := -a) (b := b) (q := -(a / b) - 1) (r := b - a % b) hb).2 ⟨by rw [Int.mul_sub, Int.mul_neg]; omega, by omega, by omega⟩
  rw [this.1]
  omega
theorem neg_ediv_at {a b : Int} (hb : 0 < b) (h : a % b = 0) : -((-a) / b) = a / b := by
  have h1 := Int.mul_ediv_add_emod a b
  have := (Int.ediv_emod_unique (a := -a) (b := b) (q := -(a / b)) (r := 0) hb).2 ⟨by rw [Int.mul_neg]; omega, by omega, by omega⟩
  rw [this.1]
  omega
theorem rceil_facts {n m : Bool} {xs ys : List Nat} (ox : Ok xs) (oy : Ok ys) (h : qright n xs m ys = true) : ∃ (fn : Bool) (fd : List Nat) (rn : Bool) (rd : List Nat), sdivR n xs m ys = (fn, fd, rn, rd, 0) ∧ sright fn fd = true ∧
    (rd = [] → qceilR n xs m ys = (fn, fd, 0)) ∧ (rd ≠ [] → ∃ cn cd, saddR fn fd false [1] = (cn, cd, 0) ∧ qceilR n xs m ys = (cn, cd, 0)) := by
  obtain ⟨p, e1, e2, e3, e4, f1, f2⟩ := rat_of ox oy h
  have hc : qceilR n xs m ys = sok p.ceil := by unfold qceilR; rw [if_pos h, toQ_of e1 e2 e3 e4]
  rw [hc, Rat.ceil_eq_neg_floor_neg, Rat.floor_def, Rat.neg_num, Rat.neg_den]
  subst e1 e2 e3 e4
  have pd : (sD (p.den : Int)).length ≤ 64 := f2
  have hp := p.den_pos
  have hpz : (0 : Int) < p.den := by omega
  have hb : (p.num / (p.den : Int)).natAbs ≤ p.num.natAbs + 1 := by
    have h1 := Int.mul_ediv_add_emod p.num p.den
    have h2 := Int.emod_nonneg p.num (by omega : (p.den : Int) ≠ 0)
    have h3 := Int.emod_lt_of_pos p.num hpz
    rcases Int.lt_or_le (p.num / p.den) 0 with h4 | h4
    · have : (p.den : Int) * (p.num / p.den) ≤ 1 * (p.num / p.den) := Int.mul_le_mul_of_nonpos_right (by omega) (by omega)
      by_cases h5 : p.num / (p.den : Int) + 1 = 0
      · omega
      · have h6 : (p.den : Int) * (p.num / p.den + 1) ≤ 1 * (p.num / p.den + 1) := Int.mul_le_mul_of_nonpos_right (by omega) (by omega)
        rw [Int.mul_add] at h6
        omega
    · have : 1 * (p.num / p.den) ≤ (p.den : Int) * (p.num / p.den) := Int.mul_le_mul_of_nonneg_right (by omega) h4
      omega
  have la := sD_ltQ f1
  have hl1 : (sD (p.num / (p.den : Int))).length ≤ 66 := by
    refine sD_small (Nat.lt_of_le_of_lt hb ?_)
    have h3 : (4294967296 : Nat) ^ 66 = 4294967296 ^ 64 * 18446744073709551616 := Nat.pow_add 4294967296 64 2
    generalize (4294967296 : Nat) ^ 64 = K at *
    omega
  have hfl : Int.fdiv p.num p.den = p.num / p.den := Int.fdiv_eq_ediv_of_nonneg _ (by omega)
  have hfm : Int.fmod p.num p.den = p.num % p.den := Int.fmod_eq_emod_of_nonneg _ (by omega)
  have := sdiv_sd (a := p.num) (b := (p.den : Int)) (by omega) (by omega) (by omega) (by rw [hfl]; omega)
  rw [sN_cast, hfl, hfm] at this
  refine ⟨_, _, _, _, this, sright_sd (by omega), fun h0 => ?_, fun h0 => ?_⟩
  · rw [neg_ediv_at hpz (sD_nil.1 h0)]
    rfl
  · rw [neg_ediv_up hpz (fun e => h0 (sD_nil.2 e))]
    have l1 : (sD 1).length ≤ 66 := by rw [show sD 1 = [1] from rfl]; decide
    exact ⟨_, _, saddQ (a := p.num / p.den) (b := 1) (by omega) (by omega) (by have := sD_addQ hl1 l1; omega), rfl⟩
end Go.Proofs.Ytlmgdhdakeekkaa

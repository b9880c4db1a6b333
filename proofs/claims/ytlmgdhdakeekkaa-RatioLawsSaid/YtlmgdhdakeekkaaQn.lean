/-
  Fractions: plain laws of sums, products, order and rounding, of what is small.
-/
import Derived.Test.YtlmgdhdakeekkaaQi
set_option linter.unusedSimpArgs false
set_option linter.unusedVariables false
namespace Go.Proofs.Ytlmgdhdakeekkaa
open Go.RowKit Num

/-- A fraction of k digits at most. -/
def Sz (q : Rat) (k : Nat) : Prop := (sD q.num).length ≤ k ∧ (dig q.den).length ≤ k
theorem Sz.mono {q : Rat} {k l : Nat} (h : Sz q k) (hl : k ≤ l) : Sz q l := ⟨Nat.le_trans h.1 hl, Nat.le_trans h.2 hl⟩
theorem sz_divInt {a b : Int} (hb : b ≠ 0) {k : Nat} (h1 : (sD a).length ≤ k) (h2 : (sD b).length ≤ k) : Sz (Rat.divInt a b) k := by
  obtain ⟨m, hm, ea, eb, _, _⟩ := divInt_parts (a := a) hb
  have e1 := abs_le_mul (a := (Rat.divInt a b).num) hm
  have e2 := abs_le_mul (a := ((Rat.divInt a b).den : Int)) hm
  rw [← ea] at e1
  rw [← eb, Int.natAbs_natCast] at e2
  exact ⟨Nat.le_trans (dig_len_mono e1) h1, Nat.le_trans (dig_len_mono e2) h2⟩
theorem sz_den {q : Rat} {k : Nat} (h : Sz q k) : (sD (q.den : Int)).length ≤ k := h.2
theorem Sz.add {p q : Rat} {j k : Nat} (hp : Sz p j) (hq : Sz q k) : Sz (p + q) (j + k + 1) := by
  rw [← add_make]
  have h1 := p.den_nz
  have h2 := q.den_nz
  have l1 := sD_mulQ hp.1 (sz_den hq)
  have l2 := sD_mulQ hq.1 (sz_den hp)
  have l3 := sD_mulQ (sz_den hp) (sz_den hq)
  rw [Nat.add_comm k j] at l2
  exact sz_divInt (Int.mul_ne_zero (by omega) (by omega)) (sD_addQ l1 l2) (by omega)
theorem Sz.mul {p q : Rat} {j k : Nat} (hp : Sz p j) (hq : Sz q k) : Sz (p * q) (j + k) := by
  rw [← mul_make]
  have h1 := p.den_nz
  have h2 := q.den_nz
  exact sz_divInt (Int.mul_ne_zero (by omega) (by omega)) (sD_mulQ hp.1 hq.1) (sD_mulQ (sz_den hp) (sz_den hq))
theorem Sz.div {p q : Rat} {j k : Nat} (hp : Sz p j) (hq : Sz q k) (hne : q ≠ 0) : Sz (p / q) (j + k) := by
  rw [← div_make]
  have h1 := p.den_nz
  have h2 : q.num ≠ 0 := fun e => hne (Rat.num_eq_zero.1 e)
  exact sz_divInt (Int.mul_ne_zero (by omega) h2) (sD_mulQ hp.1 (sz_den hq)) (sD_mulQ (sz_den hp) hq.1)
theorem Sz.few {q : Rat} {k : Nat} (h : Sz q k) (hk : k ≤ 64) : Few q := ⟨Nat.le_trans h.1 hk, Nat.le_trans h.2 hk⟩
theorem fitQ_sz {q : Rat} {k : Nat} (h : Sz q k) (hk : k ≤ 64) : fitQ q = (sN q.num, sD q.num, false, dig q.den, 0) := by
  unfold fitQ
  rw [if_pos (show (sD q.num).length ≤ 64 ∧ (dig q.den).length ≤ 64 from h.few hk)]
  rfl
theorem qright_sz {q : Rat} {k : Nat} (h : Sz q k) (hk : k ≤ 64) : qright (sN q.num) (sD q.num) false (dig q.den) = true := qright_rat (h.few hk)
theorem qadd_sz {p q : Rat} {j k : Nat} (hp : Sz p j) (hq : Sz q k) (hk : j + k + 1 ≤ 64) : qaddR (sN p.num) (sD p.num) false (dig p.den) (sN q.num) (sD q.num) false (dig q.den) = (sN (p + q).num, sD (p + q).num, false, dig (p + q).den, 0) := by
  unfold qaddR
  rw [qright_sz hp (by omega), qright_sz hq (by omega), toQ_rat, toQ_rat, if_pos (by rfl), fitQ_sz (hp.add hq) hk]
theorem qmul_sz {p q : Rat} {j k : Nat} (hp : Sz p j) (hq : Sz q k) (hk : j + k ≤ 64) : qmulR (sN p.num) (sD p.num) false (dig p.den) (sN q.num) (sD q.num) false (dig q.den) = (sN (p * q).num, sD (p * q).num, false, dig (p * q).den, 0) := by
  unfold qmulR
  rw [qright_sz hp (by omega), qright_sz hq (by omega), toQ_rat, toQ_rat, if_pos (by rfl), fitQ_sz (hp.mul hq) hk]
theorem num_ne {q : Rat} : sD q.num ≠ [] ↔ q ≠ 0 := by rw [Ne, sD_nil, Rat.num_eq_zero]
theorem qdiv_sz {p q : Rat} {j k : Nat} (hp : Sz p j) (hq : Sz q k) (hk : j + k ≤ 64) (hne : q ≠ 0) : qdivR (sN p.num) (sD p.num) false (dig p.den) (sN q.num) (sD q.num) false (dig q.den) = (sN (p / q).num, sD (p / q).num, false, dig (p / q).den, 0) := by
  unfold qdivR
  rw [qright_sz hp (by omega), qright_sz hq (by omega), toQ_rat, toQ_rat, decide_eq_true (num_ne.2 hne), if_pos (by rfl), fitQ_sz (hp.div hq hne) hk]
theorem qdiv_no {p q : Rat} (hne : q = 0) : qdivR (sN p.num) (sD p.num) false (dig p.den) (sN q.num) (sD q.num) false (dig q.den) = dbad 2 := by
  unfold qdivR
  rw [decide_eq_false (fun h => num_ne.1 h hne), Bool.and_false, Bool.and_false]
  rfl
theorem qcmp_sz {p q : Rat} {j k : Nat} (hp : Sz p j) (hq : Sz q k) (hj : j ≤ 64) (hk : k ≤ 64) : qcmpR (sN p.num) (sD p.num) false (dig p.den) (sN q.num) (sD q.num) false (dig q.den) = (cmpQ p q, 0) := by
  unfold qcmpR
  rw [qright_sz hp hj, qright_sz hq hk, toQ_rat, toQ_rat]
  rfl
theorem qneg_sz {p : Rat} {j : Nat} (hp : Sz p j) (hj : j ≤ 64) : qnegR (sN p.num) (sD p.num) false (dig p.den) = (sN (-p).num, sD (-p).num, false, dig (-p).den, 0) := by
  unfold qnegR
  rw [if_pos (qright_sz hp hj), toQ_rat]
  rfl
theorem sz_neg {p : Rat} {j : Nat} (hp : Sz p j) : Sz (-p) j := ⟨by rw [Rat.neg_num, sD_neg]; exact hp.1, by rw [Rat.neg_den]; exact hp.2⟩
theorem qfloor_sz {p : Rat} {j : Nat} (hp : Sz p j) (hj : j ≤ 64) : qfloorR (sN p.num) (sD p.num) false (dig p.den) = (sN p.floor, sD p.floor, 0) := by
  unfold qfloorR
  rw [if_pos (qright_sz hp hj), toQ_rat]
  rfl
theorem qceil_sz {p : Rat} {j : Nat} (hp : Sz p j) (hj : j ≤ 64) : qceilR (sN p.num) (sD p.num) false (dig p.den) = (sN p.ceil, sD p.ceil, 0) := by
  unfold qceilR
  rw [if_pos (qright_sz hp hj), toQ_rat]
  rfl
theorem rat_sz {n m : Bool} {xs ys : List Nat} (ho : Ok xs) (ho' : Ok ys) (h : qright n xs m ys = true) (h1 : xs.length ≤ 8) (h2 : ys.length ≤ 8) : ∃ q : Rat, n = sN q.num ∧ xs = sD q.num ∧ m = false ∧ ys = dig q.den ∧ Sz q 8 := by
  obtain ⟨q, e1, e2, e3, e4, _⟩ := rat_of ho ho' h
  exact ⟨q, e1, e2, e3, e4, by rw [← e2]; exact h1, by rw [← e4]; exact h2⟩
theorem lt_asymm' {p q : Rat} (h : p < q) : ¬ q < p := Rat.not_lt.2 (Rat.le_of_lt h)
theorem cmpQ_flip (p q : Rat) : cmpQ q p = -cmpQ p q := by
  unfold cmpQ
  by_cases h : p < q
  · rw [if_pos h, if_neg (lt_asymm' h), if_pos h]
    rfl
  · by_cases h2 : q < p
    · rw [if_pos h2, if_neg h, if_pos h2]
    · rw [if_neg h, if_neg h2, if_neg h2, if_neg h]
      rfl
theorem cmpQ_add (p q r : Rat) : cmpQ (p + r) (q + r) = cmpQ p q := by
  unfold cmpQ
  simp only [Rat.add_lt_add_right]
theorem cmpQ_zero (p q : Rat) : cmpQ p q = 0 ↔ p = q := by
  unfold cmpQ
  constructor
  · intro h
    by_cases h1 : p < q
    · rw [if_pos h1] at h
      omega
    · rw [if_neg h1] at h
      by_cases h2 : q < p
      · rw [if_pos h2] at h
        omega
      · exact Rat.le_antisymm (Rat.not_lt.1 h2) (Rat.not_lt.1 h1)
  · rintro rfl
    simp [Rat.lt_irrefl]
theorem same_rat (p q : Rat) : (sameB (sN p.num) (sD p.num) (sN q.num) (sD q.num) && sameB false (dig p.den) false (dig q.den)) = decide (p = q) := by
  rw [Bool.eq_iff_iff]
  simp only [sameB, Bool.and_eq_true, decide_eq_true_eq, beq_iff_eq]
  constructor
  · rintro ⟨⟨h1, h2⟩, _, h4⟩
    have e1 : p.num = q.num := by rw [← sv_sd p.num, ← sv_sd q.num, h1, h2]
    have e2 : p.den = q.den := by rw [← val_dig p.den, ← val_dig q.den, h4]
    exact Rat.ext e1 e2
  · rintro rfl
    simp
theorem order_of {n m n' m' k l : Bool} {xs ys xs' ys' us vs : List Nat} (ox : Ok xs) (oy : Ok ys) (ox' : Ok xs') (oy' : Ok ys') (ou : Ok us) (ov : Ok vs) (h : qright n xs m ys = true) (h' : qright n' xs' m' ys' = true) (h'' : qright k us l vs = true)
    (l1 : xs.length ≤ 8) (l2 : ys.length ≤ 8) (l3 : xs'.length ≤ 8) (l4 : ys'.length ≤ 8) (l5 : us.length ≤ 8) (l6 : vs.length ≤ 8) :
    ∃ (x : Int) (p1 : Bool) (p2 : List Nat) (p3 : Bool) (p4 : List Nat) (t1 : Bool) (t2 : List Nat) (t3 : Bool) (t4 : List Nat), qcmpR n xs m ys n' xs' m' ys' = (x, 0) ∧ qcmpR n' xs' m' ys' n xs m ys = (-x, 0) ∧ qaddR n xs m ys k us l vs = (p1, p2, p3, p4, 0) ∧ qaddR n' xs' m' ys' k us l vs = (t1, t2, t3, t4, 0) ∧
      qcmpR p1 p2 p3 p4 t1 t2 t3 t4 = (x, 0) ∧ (sameB n xs n' xs' && sameB m ys m' ys') = decide (x = 0) ∧ (x = -1 ∨ x = 0 ∨ x = 1) := by
  obtain ⟨p, rfl, rfl, rfl, rfl, sp⟩ := rat_sz ox oy h l1 l2
  obtain ⟨q, rfl, rfl, rfl, rfl, sq⟩ := rat_sz ox' oy' h' l3 l4
  obtain ⟨r, rfl, rfl, rfl, rfl, sr⟩ := rat_sz ou ov h'' l5 l6
  refine ⟨cmpQ p q, _, _, _, _, _, _, _, _, qcmp_sz sp sq (by decide) (by decide), ?_, qadd_sz sp sr (by decide), qadd_sz sq sr (by decide), ?_, ?_, ?_⟩
  · rw [qcmp_sz sq sp (by decide) (by decide), cmpQ_flip]
  · rw [qcmp_sz (sp.add sr) (sq.add sr) (by decide) (by decide), cmpQ_add]
  · rw [same_rat, decide_eq_decide]
    exact (cmpQ_zero p q).symm
  · unfold cmpQ
    split
    · exact .inl rfl
    · split
      · exact .inr (.inr rfl)
      · exact .inr (.inl rfl)
end Go.Proofs.Ytlmgdhdakeekkaa

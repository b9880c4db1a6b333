/-
  Decimal digits of a number, as bytes.
-/
import Derived.Test.YtlmgdhdakeekkaaNum
namespace Go.Proofs.Ytlmgdhdakeekkaa.Num

/-- The decimal digits as bytes, the lowest first; nought has none. -/
def decF : Nat → Nat → List UInt8
  | 0, _ => []
  | f + 1, n => if n = 0 then [] else UInt8.ofNat (48 + n % 10) :: decF f (n / 10)
def decR (n : Nat) : List UInt8 := decF n n
/-- The number's text. -/
def decS (n : Nat) : List UInt8 := if n = 0 then [48] else (decR n).reverse

theorem decF_eq (f g n : Nat) (hf : n ≤ f) (hg : n ≤ g) : decF f n = decF g n := by
  induction f generalizing n g with
  | zero =>
    have : n = 0 := by omega
    subst this
    cases g <;> simp [decF]
  | succ f ih =>
    cases g with
    | zero =>
      have : n = 0 := by omega
      subst this
      simp [decF]
    | succ g =>
      unfold decF
      split
      · rfl
      · rw [ih g (n / 10) (by omega) (by omega)]
theorem decR_zero : decR 0 = [] := rfl
theorem decR_pos (n : Nat) (h : 0 < n) : decR n = UInt8.ofNat (48 + n % 10) :: decR (n / 10) := by
  show decF n n = _
  obtain ⟨m, rfl⟩ : ∃ m, n = m + 1 := ⟨n - 1, by omega⟩
  rw [decF, if_neg (by omega)]
  rw [decF_eq m ((m + 1) / 10) _ (by omega) (Nat.le_refl _)]
  rfl
theorem decR_len {n k : Nat} (h : n < 10 ^ k) : (decR n).length ≤ k := by
  induction k generalizing n with
  | zero =>
    have : n = 0 := by simpa using h
    subst this
    simp [decR_zero]
  | succ k ih =>
    by_cases h0 : n = 0
    · subst h0; simp [decR_zero]
    · rw [decR_pos n (by omega)]
      have : n / 10 < 10 ^ k := by
        rw [Nat.div_lt_iff_lt_mul (by decide)]
        rwa [Nat.pow_succ] at h
      have := ih this
      simp; omega
theorem dec_bound {n k : Nat} (h : n < 4294967296 ^ k) : n < 10 ^ (10 * k) := by
  refine Nat.lt_of_lt_of_le h ?_
  rw [Nat.pow_mul]
  exact Nat.pow_le_pow_left (by decide) k
theorem decR_len_dig {n k : Nat} (h : (dig n).length ≤ k) : (decR n).length ≤ 10 * k := decR_len (dec_bound (le_of_dig_length h))

/-- The digits written so far, and what is left: q behind it, and i of nine digits done. -/
def TextTo (N q left i : Nat) (outs : List UInt8) : Prop := i ≤ 9 ∧ left < 10 ^ (9 - i) ∧ decR N = outs ++ decR (q * 10 ^ (9 - i) + left)
theorem TextTo.start {N a : Nat} {outs : List UInt8} (h : decR N = outs ++ decR a) : TextTo N (a / 1000000000) (a % 1000000000) 0 outs := by
  refine ⟨by decide, Nat.mod_lt _ (by decide), ?_⟩
  rw [h]
  congr 2
  have := Nat.div_add_mod a 1000000000
  show a = a / 1000000000 * 10 ^ 9 + a % 1000000000
  omega
theorem TextTo.step {N q left i : Nat} {outs : List UInt8} (h : TextTo N q left i outs) (hi : i < 9) (hp : 0 < q ∨ 0 < left) : TextTo N q (left / 10) (i + 1) (outs ++ [UInt8.ofNat (48 + left % 10)]) := by
  obtain ⟨h1, h2, h3⟩ := h
  have e : 9 - i = (9 - (i + 1)) + 1 := by omega
  rw [e, Nat.pow_succ] at h2 h3
  generalize hP : 10 ^ (9 - (i + 1)) = P at *
  have hP0 : 0 < P := by rw [← hP]; exact Nat.pow_pos (by decide)
  refine ⟨by omega, by rw [hP]; omega, ?_⟩
  rw [hP]
  have e2 : q * (P * 10) = q * P * 10 := (Nat.mul_assoc _ _ _).symm
  rw [e2] at h3
  have hpos : 0 < q * P * 10 + left := by
    rcases hp with hp | hp
    · have : 0 < q * P := Nat.mul_pos hp hP0
      omega
    · omega
  rw [decR_pos _ hpos] at h3
  have e3 : (q * P * 10 + left) % 10 = left % 10 := by omega
  have e4 : (q * P * 10 + left) / 10 = q * P + left / 10 := by omega
  rw [e3, e4] at h3
  rw [h3, List.append_assoc]
  rfl
theorem TextTo.out9 {N q left : Nat} {outs : List UInt8} (h : TextTo N q left 9 outs) : decR N = outs ++ decR q := by
  obtain ⟨h1, h2, h3⟩ := h
  have : left = 0 := by simpa using h2
  subst this
  simpa using h3
theorem TextTo.out0 {N q left i : Nat} {outs : List UInt8} (h : TextTo N q left i outs) (hq : q = 0) (hl : left = 0) : decR N = outs ++ decR q := by
  obtain ⟨h1, h2, h3⟩ := h
  subst hq hl
  simpa using h3

/-- A list on its way to being turned round. -/
def RevTo (bs : List UInt8) (i : Nat) (cs : List UInt8) : Prop := cs.length = bs.length ∧ ∀ p, cs[p]? = if p < bs.length ∧ (p < i ∨ bs.length ≤ p + i) then bs[bs.length - 1 - p]? else bs[p]?
theorem RevTo.zero (bs : List UInt8) : RevTo bs 0 bs := by
  refine ⟨rfl, fun p => ?_⟩
  rw [if_neg (by omega)]
theorem RevTo.step {bs cs : List UInt8} {i : Nat} (h : RevTo bs i cs) (hi : i + 1 + i < bs.length) (h1 : i < cs.length) (h2 : bs.length - 1 - i < cs.length) :
    RevTo bs (i + 1) ((cs.set i cs[bs.length - 1 - i]).set (bs.length - 1 - i) cs[i]) := by
  obtain ⟨hl, hc⟩ := h
  refine ⟨by simp [hl], fun p => ?_⟩
  have e1 := hc i
  have e2 := hc (bs.length - 1 - i)
  rw [if_neg (by omega), List.getElem?_eq_getElem h1] at e1
  rw [if_neg (by omega), List.getElem?_eq_getElem h2] at e2
  have hcp := hc p
  rw [List.getElem?_set, List.getElem?_set]
  by_cases hp1 : bs.length - 1 - i = p
  · subst hp1
    rw [if_pos rfl, if_pos (by simp; omega), if_pos (by omega), e1]
    congr 1
    omega
  · rw [if_neg hp1]
    by_cases hp2 : i = p
    · subst hp2
      rw [if_pos rfl, if_pos h1, if_pos (by omega), e2]
    · rw [if_neg hp2, hcp]
      by_cases hp3 : p < bs.length ∧ (p < i ∨ bs.length ≤ p + i)
      · rw [if_pos hp3, if_pos (by omega)]
      · rw [if_neg hp3, if_neg (by omega)]
theorem RevTo.done {bs cs : List UInt8} {i : Nat} (h : RevTo bs i cs) (hi : bs.length ≤ i + 1 + i) : cs = bs.reverse := by
  obtain ⟨hl, hc⟩ := h
  apply List.ext_getElem?
  intro p
  rw [hc p]
  by_cases hp : p < bs.length
  · rw [List.getElem?_reverse hp]
    by_cases h2 : p < i ∨ bs.length ≤ p + i
    · rw [if_pos ⟨hp, h2⟩]
    · rw [if_neg (fun h => h2 h.2)]
      congr 1
      omega
  · rw [if_neg (fun h => hp h.1), List.getElem?_eq_none (by omega), List.getElem?_eq_none (by simp; omega)]
end Go.Proofs.Ytlmgdhdakeekkaa.Num

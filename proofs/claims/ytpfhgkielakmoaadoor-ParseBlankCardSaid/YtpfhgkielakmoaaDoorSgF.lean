/-
  Words for rows of bytes of the call's own; the contract of slices.Reverse on them.
  Contracts of the functions on digits that only read: Right, trim, order, Less, Same, digit.
  Contracts: the reference's trim, Less, digit; Cmp of both; fit of both.
  Contracts of math/bits' Add32, Sub32, Div32, Len32, LeadingZeros32.
  Contracts of fit, digit, Plus, Minus, Add, Sub, Less, Cmp of both.
  Contracts of Less, Cmp, Add, Sub of both.
  Contracts of Add and Sub of both.
  Contracts of scaled, Product, Mul of both, Of of both.
  Contracts of Mul of both, Of of both.
  Contracts of shift, guess, less, again.
  Contracts of less, again.
  Contracts of Of of both, small, Clone, twice.
  Contracts of Clone, twice, the reference's DivMod.
  Contract of long.
  Contracts of Clone and DivMod.
  Contract of nat.Text.
  The law's own helpers: alive and few of touchstonelaw02.
  The walks of the laws NatDivs, NatSums, NatMuls, NatMakes (as far as they need no more), NatOrder, NatLaws.
  Contract of nat.Parse.
  The walks of the laws NatSums and NatMuls.
  The walks of the laws NatOrder and NatLaws.
  The walk of the law NatLaws.
  Contracts of Uint of both; the walk of the law NatMakes.
  The walk of the law NatBack.
  Signed numbers, plain: sign and digits against the whole number; what each function tells.
  Signed numbers, plain: what 'made' tells of digits is the number; quotients rounded down.
  Signed numbers: words, and the contracts of Right of both, and of what turns one into the other.
  Contracts of signed.made, Of, Neg, Small, Cmp.
  Contracts of signed.Neg, Of, Cmp, Add, Mul.
  Contracts of signed.Add and Cmp.
  Contracts of signed.Cmp, Of, Small.
  Contract of signed.DivMod.
  Contract of signed.Gcd.
  Contracts of signed.Text and Parse.
  Contract of signed.Parse.
  Contracts of touchstoneref03: made, fit, less, Same, Sum, Times.
  Contracts of touchstoneref03: Sum, Times, Add, Mul.
  Contracts of touchstoneref03: Times, Add, Mul.
  Contracts of touchstoneref03: Neg, Of, Small.
  Contracts of touchstoneref03: less, Cmp, Same.
  Contract of touchstoneref03.DivMod.
  Contract of touchstoneref03.Gcd.
  The law's own helpers: few, right, alive of touchstonelaw03.
  alive of touchstonelaw03.
  A memory as a list of known blocks and of slices that read as digits.
-/
import Derived.Test.YtpfhgkielakmoaaDoorBase
import Derived.Test.YtpfhgkielakmoaaDoorDivP
import Derived.RegionTactic
import Derived.BigRegion
import Derived.Laws.IdiomStrings
import Derived.Maps.AppendAt
import Derived.Deep.QuietTactic
import Derived.BigQuiet
import Derived.Laws.BitsAllLaws
import Derived.Laws.MathBits
import Derived.StillTailTactics
import Derived.Lib.RabinKarpLaws
import Derived.Lib.Strings
import Derived.OpenShut
import Derived.WalkSpells
import Derived.Deep.RegionHeld3
namespace Go.Proofs.YtpfhgkielakmoaaDoor
open Go.RowKit Num

/-- A byte as a value. -/
def bv (b : UInt8) : Value := .int .u8 (b.toNat : Int)
def OwnB (w : World) (base : Nat) (v : Value) (bs : List UInt8) : Prop := w.ownsRow base 5 1 v bs.length (bs.map bv)
theorem info_u8 : (Tryd.prog.info? 5).map (fun i => (i.zero, i.size, i.bytes)) = some (some (.int .u8 0), 1, 1) := by kernel_rfl
theorem OwnB.nil (w : World) (base : Nat) : OwnB w base (.slice none 0 0) [] := World.ownsRow_nil w base 5 1
theorem OwnB.alloc {w : World} {base : Nat} {v : Value} {xs : List UInt8} (h : OwnB w base v xs) (o : Obj) : OwnB (w.alloc o) base v xs := World.ownsRow.alloc h o
theorem OwnB.drewN {w : World} {base : Nat} {v : Value} {xs : List UInt8} (h : OwnB w base v xs) (n : Nat) : OwnB (w.drewN n) base v xs := h
theorem OwnB.below {w w' : World} {base : Nat} {v : Value} {xs : List UInt8} (h : OwnB w base v xs) {B : Nat} (hb : Below B w w') (hB : w.heap.size ≤ B) : OwnB w' base v xs := by
  obtain ⟨h1, h2⟩ := h
  refine ⟨h1, ?_⟩
  rcases h2 with h2 | ⟨g, cap, cur, hv, hg, hh, r⟩
  · exact Or.inl h2
  · have : g < w.heap.size := (Array.getElem?_eq_some_iff.1 hh).1
    exact Or.inr ⟨g, cap, cur, hv, hg, by rw [hb.block g (by omega)]; exact hh, r⟩
theorem OwnB.form {w : World} {base : Nat} {v : Value} {xs : List UInt8} (h : OwnB w base v xs) : (v = .slice none 0 0 ∧ xs = []) ∨ ∃ g cap, v = .slice (some ⟨g, 0, none⟩) xs.length cap ∧ base ≤ g ∧ xs.length ≤ cap ∧ cap ≤ maxLen := by
  rcases h.2 with ⟨hv, h0⟩ | ⟨g, cap, cur, hv, hg, _, hc, hm, _⟩
  · exact .inl ⟨hv, List.eq_nil_of_length_eq_zero h0⟩
  · exact .inr ⟨g, cap, hv, hg, hc, hm⟩

/-- 'append(out, b)' on a slice of bytes of the call's own. -/
theorem wp_appb1 {ops : Array Oper} {rest : List Oper} {o : Oper} {a : Act} {Q : Exit → Act → World → Prop} (s x : Operand) (w : World) (base : Nat) (v : Value) (xs : List UInt8) (d : UInt8) {D : Int} (hD : D = (d.toNat : Int))
    (hown : OwnB w base v xs) (hb : base ≤ w.heap.size) (hlen : xs.length ≤ 100000000)
    (hgd : o.guard = none) (ho : o.op = .call { callee := .builtin .append, args := #[s, x], argTypes := #[83, 83] })
    (hs : a.eval s = v) (hx : a.eval x = .slice (some ⟨w.heap.size, 0, none⟩) 1 1)
    (K : ∀ v' w', OwnB w' base v' (xs ++ [d]) → w.grownBy w' v.ownBlock → Below base w w' → (v'.ownBlock = v.ownBlock ∨ ∃ g, v'.ownBlock = some g ∧ w.heap.size ≤ g) → wpList Tryd.prog ops Q rest (a.put o.dst v') w') :
    wpList Tryd.prog ops Q (o :: rest) a (w.alloc (.cells #[.int .u8 D] 5)) := by
  subst hD
  obtain ⟨i0, hi, hz0, hz1, hz2⟩ := info_parts info_u8
  have hsz : (w.alloc (.cells #[.int .u8 (d.toNat : Int)] 5)).heap.size = w.heap.size + 1 := by simp
  refine wpList_append_own_at _ hgd s x 83 ho base 5 i0 (.int .u8 0) 1 1 Tryd.underlying83 hi hz0 hz1 hz2 rfl (by decide) v xs.length (xs.map bv) hs (hown.alloc _) ⟨w.heap.size, 0, none⟩ 1 1 [bv d] hx rfl
    ?_ ?_ ?_ ?_ ?_ ?_
  · intro j u hj
    match j, hj with
    | 0, hj =>
      simp at hj
      subst hj
      simp [Addr.add, bv]
  · intro u hu
    simp at hu
    subst hu
    rfl
  · unfold maxLen; omega
  · omega
  · rw [hsz]; omega
  · intro v' w' h1 h2 _ hat
    have hg : w.grownBy w' v.ownBlock := ⟨h2.os, h2.tape, h2.output, by have := h2.size; rw [hsz] at this; omega, fun k hk hne => by
      rw [h2.block k (by rw [hsz]; omega) hne]
      exact Below.heap_alloc w _ k hk⟩
    refine K v' w' ?_ hg ?_ (hat.imp id (fun h => ⟨_, h, by rw [hsz]; omega⟩))
    · unfold OwnB
      simpa using h1
    · refine (Below.refl base w).grown hg hb (fun k hk => (hown.lt k hk).1)

/-- 'string(out)'. -/
theorem OwnB.text {w : World} {base : Nat} {v : Value} {xs : List UInt8} (h : OwnB w base v xs) (hne : xs ≠ []) :
    (convert 83 9 v).run Tryd.prog w = .ok (.string ⟨xs.toArray⟩) w := by
  rcases h.form with ⟨_, h0⟩ | ⟨g, cap, rfl, _, hc, hm⟩
  · exact absurd h0 hne
  · refine run_convert_bytes_back w 83 9 5 ⟨g, 0, none⟩ cap xs Tryd.underlying83 Tryd.underlying5 Tryd.underlying9 (fun j hj => ?_)
    have := World.ownsRow.cellAt h j (by omega)
    have e : (⟨g, 0, none⟩ : Addr).add j = ⟨g, j, none⟩ := by unfold Addr.add; split <;> simp_all
    rw [e, this]
    simp [hj, bv]

theorem OwnB.set {w : World} {base g cap n : Nat} {xs : List UInt8} (h : OwnB w base (.slice (some ⟨g, 0, none⟩) n cap) xs) (hn : xs.length = n) (j : Nat) (d : UInt8) :
    OwnB (w.setCell ⟨g, j, none⟩ (.int .u8 (d.toNat : Int))) base (.slice (some ⟨g, 0, none⟩) n cap) (xs.set j d) ∧ w.grownBy (w.setCell ⟨g, j, none⟩ (.int .u8 (d.toNat : Int))) (some g) := by
  subst hn
  have := World.ownsRow.stored h j (bv d)
  refine ⟨?_, this.2⟩
  unfold OwnB
  rw [List.length_set, List.map_set]
  exact this.1

/-- A slice of digits outside a row of the call's own. -/
def RdOff (w : World) (A : Option Addr) (c : Nat) (xs : List Nat) (v : Value) : Prop := Rd w A c xs ∧ (xs ≠ [] → ∀ a g, A = some a → v.ownBlock = some g → a.block ≠ g)
theorem RdOff.app {w w' : World} {A : Option Addr} {c : Nat} {xs : List Nat} {v v' : Value} (h : RdOff w A c xs v) (hg : w.grownBy w' v.ownBlock) (hat : v'.ownBlock = v.ownBlock ∨ ∃ g, v'.ownBlock = some g ∧ w.heap.size ≤ g) : RdOff w' A c xs v' := by
  obtain ⟨h1, h2⟩ := h
  refine ⟨⟨h1.room, h1.cap, h1.ok, fun hn => ?_⟩, fun hn a g ha hv => ?_⟩
  · obtain ⟨b, o, hA, hlt, hc⟩ := h1.at_ hn
    exact ⟨b, o, hA, Nat.lt_of_lt_of_le hlt hg.size, fun j hj => hg.cell (hc j hj) (fun e => h2 hn _ _ hA e.symm rfl)⟩
  · rcases hat with e | ⟨g', e, hge⟩
    · exact h2 hn a g ha (e ▸ hv)
    · obtain ⟨b, o, hA, hlt, hc⟩ := h1.at_ hn
      rw [hA] at ha
      have ha' : a = ⟨b, o, none⟩ := (Option.some.inj ha).symm
      rw [e] at hv
      have hg' : g' = g := Option.some.inj hv
      subst ha'
      show b ≠ g
      omega
theorem RdOff.fresh {w w1 : World} {base : Nat} {A : Option Addr} {c : Nat} {xs : List Nat} {v : Value} {bs : List UInt8} (h : Rd w1 A c xs) (hf : ∀ a, A = some a → w.heap.size ≤ a.block) (ho : OwnB w base v bs) : RdOff w1 A c xs v :=
  ⟨h, fun _ a g ha hv => by have := (World.ownsRow.lt ho g hv).2; have := hf a ha; omega⟩
theorem RdOff.old {w : World} {A : Option Addr} {c : Nat} {xs : List Nat} (h : Rd w A c xs) : RdOff w A c xs (.slice none 0 0) := ⟨h, fun _ a g _ hv => by cases hv⟩

end Go.Proofs.YtpfhgkielakmoaaDoor

namespace Go.Proofs.YtpfhgkielakmoaaDoor
open Go.RowKit Num

instance (ds : List Nat) : Decidable (Fine ds) := by unfold Fine; infer_instance
def rightB (xs : List Nat) : Bool := decide (xs.length ≤ 256 ∧ Fine xs)

theorem rightB_nil : rightB [] = true := by simp [rightB, Fine]
theorem rightB_last {xs : List Nat} (hl : 0 < xs.length) (hm : xs.length ≤ 256) {d : Nat} (hx : xs[xs.length - 1] = d) : rightB xs = ((d : Int) != 0) := by
  have h1 : xs.getLast? = some d := by
    rw [List.getLast?_eq_getElem?, List.getElem?_eq_getElem (by omega), hx]
  by_cases hd : d = 0 <;> simp [rightB, Fine, h1, hm, hd]
theorem rightB_big {xs : List Nat} (hm : ¬ xs.length ≤ 256) : rightB xs = false := by simp [rightB, hm]

theorem ret_bool {a b : Bool} (h : a = b) : Ending.returned (.bool a) = .returned (.bool b) := by rw [h]
theorem ret_int {k : IntKind} {a b : Int} (h : a = b) : Ending.returned (.int k a) = .returned (.int k b) := by rw [h]

/-- The measure of a loop that cuts a slice. -/
def lenOf : Value → Nat | .slice _ n _ => n | _ => 0

theorem fine_take {xs : List Nat} {k : Nat} (hk : k < xs.length) (h : ¬ xs[k] = 0) : Fine (xs.take (k + 1)) := by
  rw [List.take_succ_eq_append_getElem hk]
  unfold Fine
  rw [List.getLast?_concat]
  simp [h]
theorem val_take_zero {xs : List Nat} {k : Nat} (hk : k < xs.length) (h : xs[k] = 0) (hv : val (xs.take (k + 1)) = val xs) : val (xs.take k) = val xs := by
  rw [val_take_succ xs k hk, h] at hv
  simpa using hv
theorem trim_end {xs : List Nat} {k : Nat} (ho : Ok xs) (hv : val (xs.take k) = val xs) (hf : Fine (xs.take k)) : dig (val xs) = xs.take k := by
  rw [← hv, dig_val (ho.take k) hf]

def TrimEnd (A : Option Addr) (c : Nat) (xs : List Nat) (e : Ending) : Prop := ∃ k : Nat, k ≤ xs.length ∧ e = .returned (.slice A k c) ∧ dig (val xs) = xs.take k

theorem trim_use {w : World} {A : Option Addr} {c : Nat} {xs : List Nat} {e : Ending} (h : TrimEnd A c xs e) (hr : Rd w A c xs) :
    e = .returned (.slice A (dig (val xs)).length c) ∧ Rd w A c (dig (val xs)) := by
  obtain ⟨k, hk, rfl, hd⟩ := h
  rw [hd]
  refine ⟨?_, hr.take k⟩
  rw [List.length_take, Nat.min_eq_left hk]

/-- How two numbers follow each other. -/
def cmpN (m n : Nat) : Int := if m < n then -1 else if n < m then 1 else 0

theorem cmp_len {m n : Nat} (h : (dig m).length < (dig n).length) : m < n := by
  have := val_lt_of_length (dig_ok m) (dig_ok n) (fine_dig n) h
  rwa [val_dig, val_dig] at this
theorem cmp_top {m n k : Nat} (hl : (dig m).length = (dig n).length) (hk : k < (dig m).length) (hk' : k < (dig n).length) (hd : (dig m).drop (k + 1) = (dig n).drop (k + 1))
    (hlt : (dig m)[k] < (dig n)[k]) : m < n := by
  have := val_cmp_top k (dig_ok m) hl hk hd hlt
  rwa [val_dig, val_dig] at this
theorem cmpN_lt {m n : Nat} (h : m < n) : cmpN m n = -1 := by simp [cmpN, h]
theorem cmpN_gt {m n : Nat} (h : n < m) : cmpN m n = 1 := by unfold cmpN; rw [if_neg (by omega), if_pos h]
theorem cmpN_eq {m n : Nat} (h : m = n) : cmpN m n = 0 := by subst h; simp [cmpN]
theorem drop_step {xs ys : List Nat} {k : Nat} (hx : k < xs.length) (hy : k < ys.length) (h : xs.drop (k + 1) = ys.drop (k + 1)) (hz : xs[k] = ys[k]) : xs.drop k = ys.drop k := by
  rw [List.drop_eq_getElem_cons hx, List.drop_eq_getElem_cons hy, h, hz]

end Go.Proofs.YtpfhgkielakmoaaDoor

namespace Go.Proofs.YtpfhgkielakmoaaDoor
open Go.RowKit Num

theorem map_take_snoc {xs : List Nat} {k : Nat} (h : k < xs.length) : xs.take k ++ [xs[k]] = xs.take (k + 1) := (List.take_succ_eq_append_getElem h).symm

end Go.Proofs.YtpfhgkielakmoaaDoor

namespace Go.Proofs.YtpfhgkielakmoaaDoor
open Go.RowKit Num

theorem or_join (x y : Int) (hx : 0 ≤ x) (hx' : x < 4294967296) (hy : 0 ≤ y) (hy' : y < 4294967296) : bits .or .u64 (x * 4294967296) y = x * 4294967296 + y := by
  rw [u64_or _ _ (by omega) (by omega) hy (by omega)]
  obtain ⟨a, rfl⟩ := Int.eq_ofNat_of_zero_le hx
  obtain ⟨b, rfl⟩ := Int.eq_ofNat_of_zero_le hy
  have e : ((a : Int) * 4294967296).toNat = a * 4294967296 := by omega
  rw [e, Int.toNat_natCast, nat_join 32 (a * 4294967296) b (by omega) (by omega)]
  omega

theorem top32 (n : Nat) (h : n < 4294967296) : n / 2147483648 = (n.testBit 31).toNat := by
  rw [Nat.testBit_eq_decide_div_mod_eq]
  by_cases h1 : n / 2 ^ 31 % 2 = 1
  · simp [h1]; omega
  · simp [h1]; omega
theorem bit31 (n : Nat) (h : n < 4294967296) : n.testBit 31 = decide (2147483648 ≤ n) := by
  rw [Nat.testBit_eq_decide_div_mod_eq]
  congr 1
  apply propext
  omega
theorem not32 (n : Nat) (_h : n < 4294967296) : (4294967295 ^^^ n : Nat).testBit 31 = !n.testBit 31 := by
  rw [Nat.testBit_xor]
  have : Nat.testBit 4294967295 31 = true := by decide
  rw [this]
  simp

/-- What Sub32 reckons as its borrow. -/
theorem sub_borrow (x y c : Nat) (hx : x < 4294967296) (hy : y < 4294967296) (hc : c ≤ 1) (d : Nat) (hd : d = (x + 8589934592 - y - c) % 4294967296) :
    (((4294967295 ^^^ x) &&& y) ||| ((4294967295 ^^^ (x ^^^ y)) &&& d)) / 2147483648 = if x < y + c then 1 else 0 := by
  have hd' : d < 4294967296 := by omega
  have hxy : x ^^^ y < 4294967296 := Nat.xor_lt_two_pow (n := 32) hx hy
  have h1 : (4294967295 ^^^ x) &&& y < 4294967296 := Nat.and_lt_two_pow (n := 32) _ hy
  have h2 : (4294967295 ^^^ (x ^^^ y)) &&& d < 4294967296 := Nat.and_lt_two_pow (n := 32) _ hd'
  rw [top32 _ (Nat.or_lt_two_pow (n := 32) h1 h2), Nat.testBit_or, Nat.testBit_and, Nat.testBit_and, not32 _ hx, not32 _ hxy, Nat.testBit_xor, bit31 x hx, bit31 y hy, bit31 d hd']
  by_cases a : 2147483648 ≤ x <;> by_cases b : 2147483648 ≤ y <;> by_cases e : 2147483648 ≤ d <;> simp [a, b, e] <;> omega

theorem sub_borrow_int (x y c : Int) (hx : 0 ≤ x) (hx' : x < 4294967296) (hy : 0 ≤ y) (hy' : y < 4294967296) (hc : 0 ≤ c) (hc' : c ≤ 1) :
    bits .or .u32 (bits .and .u32 (bits .xor .u32 IntKind.u32.max x) y) (bits .and .u32 (bits .xor .u32 IntKind.u32.max (bits .xor .u32 x y)) ((x - y - c) % 4294967296)) / 2147483648
      = if x < y + c then 1 else 0 := by
  have hm : IntKind.u32.max = 4294967295 := by decide
  obtain ⟨x, rfl⟩ := Int.eq_ofNat_of_zero_le hx
  obtain ⟨y, rfl⟩ := Int.eq_ofNat_of_zero_le hy
  obtain ⟨c, rfl⟩ := Int.eq_ofNat_of_zero_le hc
  have ed : ((x : Int) - y - c) % 4294967296 = (((x + 8589934592 - y - c) % 4294967296 : Nat) : Int) := by omega
  have hd' : (x + 8589934592 - y - c) % 4294967296 < 4294967296 := Nat.mod_lt _ (by decide)
  have hx2 : x < 2 ^ 32 := by omega
  have hy2 : y < 2 ^ 32 := by omega
  have hxy : x ^^^ y < 4294967296 := Nat.xor_lt_two_pow (n := 32) hx2 hy2
  have h3 : 4294967295 ^^^ x < 4294967296 := Nat.xor_lt_two_pow (n := 32) (by decide) hx2
  have h4 : 4294967295 ^^^ (x ^^^ y) < 4294967296 := Nat.xor_lt_two_pow (n := 32) (by decide) hxy
  have h1 : (4294967295 ^^^ x) &&& y < 4294967296 := Nat.and_lt_two_pow (n := 32) _ hy2
  have h2 : (4294967295 ^^^ (x ^^^ y)) &&& ((x + 8589934592 - y - c) % 4294967296) < 4294967296 := Nat.and_lt_two_pow (n := 32) _ hd'
  have em : (4294967295 : Int) = ((4294967295 : Nat) : Int) := rfl
  rw [hm, ed, em, u32_xor_nat 4294967295 x (by decide) (by omega), u32_xor_nat x y (by omega) (by omega), u32_xor_nat 4294967295 _ (by decide) hxy, u32_and_nat _ _ h3 (by omega),
    u32_and_nat _ _ h4 hd', u32_or_nat _ _ h1 h2]
  have := sub_borrow x y c (by omega) (by omega) (by omega) _ rfl
  have e2 : (((((4294967295 ^^^ x) &&& y) ||| ((4294967295 ^^^ (x ^^^ y)) &&& ((x + 8589934592 - y - c) % 4294967296))) / 2147483648 : Nat) : Int) = ((if x < y + c then 1 else 0 : Nat) : Int) := by rw [this]
  rw [Int.natCast_ediv] at e2
  refine e2.trans ?_
  split <;> split <;> omega

theorem bitLen_le (n k : Nat) (h : n < 2 ^ k) : bitLen n ≤ k := by
  by_cases h0 : n = 0
  · subst h0; simp [bitLen]
  · have h1 := (bitLen_spec n).2 h0
    have h2 : 2 ^ (bitLen n - 1) < 2 ^ k := Nat.lt_of_le_of_lt h1 h
    have h3 := (Nat.pow_lt_pow_iff_right (a := 2) (by decide)).1 h2
    omega

theorem len_fin (x b : Int) (k : Nat) (_hx : 0 ≤ x) (hb : b = k) (hk : k ≤ 32) (f0 : bitLen x.toNat ≤ 32) (h : x.toNat / 2 ^ k ≠ 0) (y : Nat) (hy : y = x.toNat / 2 ^ k) : wrap64 (b + wrap64 (bitLen y)) = (bitLen x.toNat : Int) := by
  subst hb hy
  have e2 := bitLen_shift x.toNat k h
  have e3 : wrap64 (bitLen (x.toNat / 2 ^ k) : Int) = (bitLen (x.toNat / 2 ^ k) : Int) := IntWalk.wrap64_in _ ⟨by omega, by omega⟩
  rw [e3, IntWalk.wrap64_in _ ⟨by omega, by omega⟩]
  omega

end Go.Proofs.YtpfhgkielakmoaaDoor

namespace Go.Proofs.YtpfhgkielakmoaaDoor
open Go.RowKit Num

def fitR (n : Nat) : List Nat × Int := if (dig n).length ≤ 256 then (dig n, 0) else ([], 3)
def addR (xs ys : List Nat) : List Nat × Int := if rightB xs && rightB ys then fitR (val xs + val ys) else ([], 2)
def subR (xs ys : List Nat) : List Nat × Int := if rightB xs && rightB ys && decide (val ys ≤ val xs) then (dig (val xs - val ys), 0) else ([], 2)
def cmpR (xs ys : List Nat) : Int × Int := if rightB xs && rightB ys then (cmpN (val xs) (val ys), 0) else (0, 2)

theorem dig_len_le (xs : List Nat) (h : Ok xs) : (dig (val xs)).length ≤ xs.length := dig_length_le (val_lt h)

theorem step_add {P a b o cr dx dy s q : Nat} (h : o + P * cr = a + b) (hs : s + 4294967296 * q = dx + dy + cr) : (o + P * s) + (P * 4294967296) * q = (a + P * dx) + (b + P * dy) := by
  have e : P * s + P * 4294967296 * q = P * dx + P * dy + P * cr := by
    rw [Nat.mul_assoc, ← Nat.mul_add, hs, Nat.mul_add, Nat.mul_add]
  omega
theorem step_sub {P a b o cr dx dy s q : Nat} (h : o + b = a + P * cr) (hs : s + dy + cr = dx + 4294967296 * q) : (o + P * s) + (b + P * dy) = (a + P * dx) + (P * 4294967296) * q := by
  have e : P * s + P * dy + P * cr = P * dx + P * 4294967296 * q := by
    rw [Nat.mul_assoc, ← Nat.mul_add, ← Nat.mul_add, hs, Nat.mul_add]
  omega

theorem carry_out {P o x y cr : Nat} (b1 : x < P) (b2 : y < P) (h3 : o + P * 4294967296 * cr = x + y) : o = x + y := by
  rcases Nat.eq_zero_or_pos cr with hc | hc
  · rw [hc, Nat.mul_zero] at h3
    omega
  · obtain ⟨c', hc'⟩ : ∃ c', cr = c' + 1 := ⟨cr - 1, by omega⟩
    rw [hc', Nat.mul_add, Nat.mul_one] at h3
    generalize P * 4294967296 * c' = Z at h3
    omega

/-- The sum, digit by digit: out so far, the carry. -/
def AddTo (xs ys : List Nat) (k : Nat) (outs : List Nat) (cr : Nat) : Prop := Ok outs ∧ outs.length = k ∧ val outs + 4294967296 ^ k * cr = val (xs.take k) + val (ys.take k)
theorem AddTo.zero (xs ys : List Nat) : AddTo xs ys 0 [] 0 := ⟨Ok.nil, rfl, by simp [val]⟩
theorem AddTo.step {xs ys : List Nat} {k : Nat} {outs : List Nat} {cr s q : Nat} (h : AddTo xs ys k outs cr) (hs : s < 4294967296) (e : s + 4294967296 * q = at0 xs k + at0 ys k + cr) :
    AddTo xs ys (k + 1) (outs ++ [s]) q := by
  obtain ⟨h1, h2, h3⟩ := h
  refine ⟨h1.append (Ok.cons hs Ok.nil), by simp [h2], ?_⟩
  rw [val_snoc, h2, val_take_at0, val_take_at0, Nat.pow_succ]
  generalize 4294967296 ^ k = P at h3 ⊢
  exact step_add h3 e
theorem AddTo.done {xs ys : List Nat} {k : Nat} {outs : List Nat} {cr : Nat} (h : AddTo xs ys k outs cr) (hx : Ok xs) (hy : Ok ys) (h1 : xs.length < k) (h2 : ys.length < k) : val outs = val xs + val ys := by
  obtain ⟨_, _, h3⟩ := h
  rw [List.take_of_length_le (by omega), List.take_of_length_le (by omega)] at h3
  obtain ⟨j, rfl⟩ : ∃ j, k = j + 1 := ⟨k - 1, by omega⟩
  have b1 : val xs < 4294967296 ^ j := Nat.lt_of_lt_of_le (val_lt hx) (Nat.pow_le_pow_right (by decide) (by omega))
  have b2 : val ys < 4294967296 ^ j := Nat.lt_of_lt_of_le (val_lt hy) (Nat.pow_le_pow_right (by decide) (by omega))
  rw [Nat.pow_succ] at h3
  generalize 4294967296 ^ j = P at h3 b1 b2
  exact carry_out b1 b2 h3
/-- The same where one carry more is written behind the longer number's digits. -/
theorem AddTo.last {xs ys : List Nat} {k : Nat} {outs : List Nat} {cr : Nat} (h : AddTo xs ys k outs cr) (h1 : xs.length ≤ k) (h2 : ys.length ≤ k) : val (outs ++ [cr]) = val xs + val ys := by
  obtain ⟨_, hl, h3⟩ := h
  rw [List.take_of_length_le h1, List.take_of_length_le h2] at h3
  rw [val_snoc, hl, h3]

/-- The difference, digit by digit. -/
def SubTo (xs ys : List Nat) (k : Nat) (outs : List Nat) (cr : Nat) : Prop := Ok outs ∧ outs.length = k ∧ val outs + val (ys.take k) = val (xs.take k) + 4294967296 ^ k * cr
theorem SubTo.zero (xs ys : List Nat) : SubTo xs ys 0 [] 0 := ⟨Ok.nil, rfl, by simp [val]⟩
theorem SubTo.step {xs ys : List Nat} {k : Nat} {outs : List Nat} {cr s q : Nat} (h : SubTo xs ys k outs cr) (hs : s < 4294967296) (e : s + at0 ys k + cr = at0 xs k + 4294967296 * q) :
    SubTo xs ys (k + 1) (outs ++ [s]) q := by
  obtain ⟨h1, h2, h3⟩ := h
  refine ⟨h1.append (Ok.cons hs Ok.nil), by simp [h2], ?_⟩
  rw [val_snoc, h2, val_take_at0, val_take_at0, Nat.pow_succ]
  generalize 4294967296 ^ k = P at h3 ⊢
  exact step_sub h3 e
theorem borrow_out {P o x y cr : Nat} (b1 : o < P) (b2 : y ≤ x) (h3 : o + y = x + P * cr) : o = x - y := by
  rcases Nat.eq_zero_or_pos cr with hc | hc
  · rw [hc, Nat.mul_zero] at h3
    omega
  · obtain ⟨c', hc'⟩ : ∃ c', cr = c' + 1 := ⟨cr - 1, by omega⟩
    rw [hc', Nat.mul_add, Nat.mul_one] at h3
    generalize P * c' = Z at h3
    omega
theorem SubTo.done {xs ys : List Nat} {k : Nat} {outs : List Nat} {cr : Nat} (h : SubTo xs ys k outs cr) (h1 : xs.length ≤ k) (h2 : ys.length ≤ k) (hle : val ys ≤ val xs) : val outs = val xs - val ys := by
  obtain ⟨ho, hl, h3⟩ := h
  rw [List.take_of_length_le h1, List.take_of_length_le h2] at h3
  have b := val_lt ho
  rw [hl] at b
  generalize 4294967296 ^ k = P at h3 b
  exact borrow_out b hle h3

end Go.Proofs.YtpfhgkielakmoaaDoor

namespace Go.Proofs.YtpfhgkielakmoaaDoor
open Go.RowKit Num

theorem right_dig {xs : List Nat} (ho : Ok xs) (h : rightB xs = true) : dig (val xs) = xs := by
  unfold rightB at h
  exact dig_val ho (of_decide_eq_true h).2
theorem right_len {xs : List Nat} (h : rightB xs = true) : xs.length ≤ 256 := by
  unfold rightB at h
  exact (of_decide_eq_true h).1
theorem dig_len_mono {m n : Nat} (h : m ≤ n) : (dig m).length ≤ (dig n).length := dig_length_le (Nat.lt_of_le_of_lt h (le_of_dig_length (Nat.le_refl _)))
theorem less_len {m n : Nat} (hl : ¬ (dig m).length = (dig n).length) : decide ((dig m).length < (dig n).length) = decide (m < n) := by
  rcases Nat.lt_or_gt_of_ne hl with h | h
  · exact (decide_eq_true h).trans (decide_eq_true (cmp_len h)).symm
  · have := cmp_len h
    exact (decide_eq_false (by omega)).trans (decide_eq_false (by omega)).symm
theorem decide_lt_true {m n : Nat} (h : m < n) : decide (m < n) = true := decide_eq_true h
theorem decide_lt_false {m n : Nat} (h : ¬ m < n) : decide (m < n) = false := decide_eq_false h

theorem cmpR_eq {xs ys : List Nat} (h1 : rightB xs = true) (h2 : rightB ys = true) : cmpR xs ys = (cmpN (val xs) (val ys), 0) := by simp [cmpR, h1, h2]
theorem cmpR_no {xs ys : List Nat} (h : (rightB xs && rightB ys) = false) : cmpR xs ys = (0, 2) := by simp [cmpR, h]
theorem addR_eq {xs ys : List Nat} (h1 : rightB xs = true) (h2 : rightB ys = true) : addR xs ys = fitR (val xs + val ys) := by simp [addR, h1, h2]
theorem addR_no {xs ys : List Nat} (h : (rightB xs && rightB ys) = false) : addR xs ys = ([], 2) := by simp [addR, h]

/-- Two results: a number, and what is wrong. -/
theorem ret_two {k1 k2 : IntKind} {r : Int × Int} {a b : Int} (h : r = (a, b)) : Ending.returned (.tuple #[.int k1 a, .int k2 b]) = .returned (.tuple #[.int k1 r.1, .int k2 r.2]) := by rw [h]



end Go.Proofs.YtpfhgkielakmoaaDoor

namespace Go.Proofs.YtpfhgkielakmoaaDoor
open Go.RowKit Num

theorem sum_len {x y k : Nat} (hx : x < 4294967296 ^ k) (hy : y < 4294967296 ^ k) : (dig (x + y)).length ≤ k + 1 := by
  apply dig_length_le
  rw [Nat.pow_succ]
  generalize 4294967296 ^ k = P at hx hy ⊢
  omega
theorem subR_eq {xs ys : List Nat} (h1 : rightB xs = true) (h2 : rightB ys = true) (h : val ys ≤ val xs) : subR xs ys = (dig (val xs - val ys), 0) := by simp [subR, h1, h2, h]
theorem subR_no {xs ys : List Nat} (h : (rightB xs && rightB ys && decide (val ys ≤ val xs)) = false) : subR xs ys = ([], 2) := by unfold subR; rw [h]; rfl



theorem cmpN_neg {m n : Nat} : ((cmpN m n) < 0) ↔ m < n := by
  unfold cmpN
  split
  · simp [*]
  · split <;> simp <;> omega
theorem cmpN_neg_b {m n : Nat} (h : ¬ m < n) : 0 ≤ cmpN m n := by
  unfold cmpN
  rw [if_neg h]
  split <;> simp
theorem cmpN_pos_b {m n : Nat} (h : m < n) : cmpN m n < 0 := by
  unfold cmpN
  rw [if_pos h]
  decide

end Go.Proofs.YtpfhgkielakmoaaDoor

namespace Go.Proofs.YtpfhgkielakmoaaDoor
open Go.RowKit Num

def mulR (xs ys : List Nat) : List Nat × Int := if rightB xs && rightB ys then fitR (val xs * val ys) else ([], 2)
theorem mulR_eq {xs ys : List Nat} (h1 : rightB xs = true) (h2 : rightB ys = true) : mulR xs ys = fitR (val xs * val ys) := by simp [mulR, h1, h2]
theorem mulR_no {xs ys : List Nat} (h : (rightB xs && rightB ys) = false) : mulR xs ys = ([], 2) := by simp [mulR, h]


theorem rep_snoc (k : Nat) : List.replicate k 0 ++ [0] = List.replicate (k + 1) (0 : Nat) := by rw [List.replicate_succ']

theorem mul_zero_dig (m : Nat) : dig (m * val ([] : List Nat)) = [] := by simp [val, dig_zero]

end Go.Proofs.YtpfhgkielakmoaaDoor

namespace Go.Proofs.YtpfhgkielakmoaaDoor
open Go.RowKit Num



/-- The product of two digits, as a number of its own. -/
theorem digits_mul {a b : Nat} (ha : a < 4294967296) (hb : b < 4294967296) : ∃ M : Nat, (a : Int) * (b : Int) = (M : Int) ∧ M = a * b ∧ M ≤ 18446744065119617025 := by
  refine ⟨a * b, (Int.natCast_mul _ _).symm, rfl, ?_⟩
  exact Nat.mul_le_mul (Nat.le_of_lt_succ ha) (Nat.le_of_lt_succ hb)

end Go.Proofs.YtpfhgkielakmoaaDoor

namespace Go.Proofs.YtpfhgkielakmoaaDoor
open Go.RowKit Num

/-- A block of these digits is handed back. -/
def RetRow (w w' : World) (e : Ending) (os : List Nat) : Prop := (∃ g, e = .returned (.slice (some ⟨g, 0, none⟩) os.length os.length) ∧ Row w' g os ∧ w.heap.size ≤ g) ∧ Below w.heap.size w w'

theorem shl_fits {d s : Nat} (hd : d < 4294967296) (hs : s ≤ 31) : ∃ N : Nat, IntKind.u64.wrap ((d : Int) * 2 ^ s) = (N : Int) ∧ N = d * 2 ^ s ∧ N < 9223372036854775808 ∧ N / 4294967296 < 2 ^ s := by
  have h1 : 2 ^ s ≤ 2 ^ 31 := Nat.pow_le_pow_right (by decide) hs
  have h0 : 0 < 2 ^ s := Nat.two_pow_pos s
  have h2 : d * 2 ^ s ≤ 4294967295 * 2 ^ 31 := Nat.mul_le_mul (by omega) h1
  have h3 : d * 2 ^ s < 4294967296 * 2 ^ s := Nat.mul_lt_mul_of_pos_right hd h0
  have e : ((d : Int) * 2 ^ s) = ((d * 2 ^ s : Nat) : Int) := by rw [Int.natCast_mul, Int.natCast_pow]; rfl
  refine ⟨d * 2 ^ s, ?_, rfl, by omega, by rw [Nat.div_lt_iff_lt_mul (by decide), Nat.mul_comm (2 ^ s)]; exact h3⟩
  rw [e, IntWalk.u64_in _ (by omega)]
theorem or_low {o N d s : Nat} (hs : s ≤ 31) (hN : N = d * 2 ^ s) (ho : o < 2 ^ s) : bits .or .u32 (o : Int) ((N : Int) % 4294967296) = ((o + N % 4294967296 : Nat) : Int) ∧ o + N % 4294967296 < 4294967296 := by
  have h0 : 0 < 2 ^ s := Nat.two_pow_pos s
  have h1 : 2 ^ s ≤ 2 ^ 31 := Nat.pow_le_pow_right (by decide) hs
  have hm : N % 4294967296 % 2 ^ s = 0 := by
    have hdvd : 2 ^ s ∣ 4294967296 := ⟨2 ^ (32 - s), by rw [← Nat.pow_add, show s + (32 - s) = 32 by omega]⟩
    rw [Nat.mod_mod_of_dvd _ hdvd, hN, Nat.mul_mod_left]
  have hlt : N % 4294967296 < 4294967296 := Nat.mod_lt _ (by decide)
  have hsum : o + N % 4294967296 < 4294967296 := by
    obtain ⟨q, hq⟩ := Nat.dvd_of_mod_eq_zero hm
    have hpow : 2 ^ (32 - s) * 2 ^ s = 4294967296 := by rw [← Nat.pow_add, show 32 - s + s = 32 by omega]
    have hq1 : q < 2 ^ (32 - s) := by
      rw [hq, ← hpow, Nat.mul_comm (2 ^ (32 - s))] at hlt
      exact Nat.lt_of_mul_lt_mul_left hlt
    have : (q + 1) * 2 ^ s ≤ 2 ^ (32 - s) * 2 ^ s := Nat.mul_le_mul_right _ hq1
    rw [hpow, Nat.add_mul, Nat.one_mul, Nat.mul_comm q] at this
    omega
  refine ⟨?_, hsum⟩
  have e : ((N : Int) % 4294967296) = ((N % 4294967296 : Nat) : Int) := by omega
  rw [e, u32_or_nat _ _ (by omega) hlt, Nat.or_comm, nat_join s _ _ hm ho]
  congr 1
  omega

end Go.Proofs.YtpfhgkielakmoaaDoor

namespace Go.Proofs.YtpfhgkielakmoaaDoor
open Go.RowKit Num

theorem gb_refl (w : World) (row : Option Nat) : w.grownBy w row := ⟨rfl, rfl, rfl, Nat.le_refl _, fun _ _ _ => rfl⟩
theorem gb_trans {w w' w'' : World} {row : Option Nat} (h : w.grownBy w' row) (h' : w'.grownBy w'' row) : w.grownBy w'' row :=
  ⟨h'.os.trans h.os, h'.tape.trans h.tape, h'.output.trans h.output, Nat.le_trans h.size h'.size, fun k hk hne => (h'.block k (Nat.lt_of_lt_of_le hk h.size) hne).trans (h.block k hk hne)⟩
theorem gb_set {w w' : World} {g : Nat} (h : w.grownBy w' (some g)) (i : Nat) (u : Value) : w.grownBy (w'.setCell ⟨g, i, none⟩ u) (some g) :=
  gb_trans h ⟨rfl, rfl, rfl, by simp [World.setCell], fun k _ hne => Below.heap_setCell _ _ _ _ (fun e => hne (by rw [e]))⟩
theorem gb_drewN {w w' : World} {row : Option Nat} (h : w.grownBy w' row) (n : Nat) : w.grownBy (w'.drewN n) row := gb_trans h ⟨rfl, rfl, rfl, Nat.le_refl _, fun _ _ _ => rfl⟩
theorem Row.grown {w w' : World} {g h : Nat} {xs : List Nat} (hr : Row w h xs) (hg : w.grownBy w' (some g)) (hne : h ≠ g) : Row w' h xs := (hg.block h hr.lt (fun e => hne (by injection e))).trans hr
/-- A slice outside a block. -/
def Off (A : Option Addr) (g : Nat) : Prop := ∀ a, A = some a → a.block ≠ g
theorem Rd.grown {w w' : World} {A : Option Addr} {c g : Nat} {xs : List Nat} (h : Rd w A c xs) (hg : w.grownBy w' (some g)) (hne : Off A g) : Rd w' A c xs :=
  ⟨h.room, h.cap, h.ok, fun hn => by
    obtain ⟨b, o, hA, hlt, hc⟩ := h.at_ hn
    exact ⟨b, o, hA, Nat.lt_of_lt_of_le hlt hg.size, fun j hj => hg.cell (hc j hj) (fun e => hne _ hA (by simpa using e))⟩⟩
theorem below_grown {w0 w w' : World} {B g : Nat} (h : Below B w0 w) (hg : w.grownBy w' (some g)) (hB : B ≤ w.heap.size) (hgB : B ≤ g) : Below B w0 w' := h.grown hg hB (by intro k hk; injection hk with hk; omega)

end Go.Proofs.YtpfhgkielakmoaaDoor

namespace Go.Proofs.YtpfhgkielakmoaaDoor
open Go.RowKit Num

theorem of_val (u : Nat) : val [u % 4294967296, u / 4294967296] = u := by simp [val]; omega
theorem row_two (w : World) (a b : Nat) : Row (w.alloc (.cells #[.int .u32 (a : Int), .int .u32 (b : Int)] 129)) w.heap.size [a, b] := heap_alloc_new w _


/-- A quotient, and what is left. -/
def RetSU (w w' : World) (e : Ending) (ys : List Nat) (k : IntKind) (r : Nat) : Prop := (∃ A c, e = .returned (.tuple #[.slice A ys.length c, .int k r]) ∧ Rd w' A c ys ∧ ∀ a, A = some a → w.heap.size ≤ a.block) ∧ Below w.heap.size w w'

end Go.Proofs.YtpfhgkielakmoaaDoor

namespace Go.Proofs.YtpfhgkielakmoaaDoor
open Go.RowKit Num

theorem add_lit' (b o j : Nat) : (⟨b, o, none⟩ : Addr).add j = ⟨b, o + j, none⟩ := by
  unfold Addr.add
  split <;> simp_all

theorem sum_len_le {m n k : Nat} (h1 : (dig m).length ≤ k) (h2 : (dig n).length ≤ k) : (dig (m + n)).length ≤ k + 1 := sum_len (le_of_dig_length h1) (le_of_dig_length h2)

def divR (xs ys : List Nat) : List Nat × List Nat × Int := if rightB xs && rightB ys && decide (ys ≠ []) then (dig (val xs / val ys), dig (val xs % val ys), 0) else ([], [], 2)
theorem divR_eq {xs ys : List Nat} (h1 : rightB xs = true) (h2 : rightB ys = true) (h : ys ≠ []) : divR xs ys = (dig (val xs / val ys), dig (val xs % val ys), 0) := by simp [divR, h1, h2, h]
theorem divR_no {xs ys : List Nat} (h : (rightB xs && rightB ys && decide (ys ≠ [])) = false) : divR xs ys = ([], [], 2) := by unfold divR; rw [h]; rfl
/-- Two slices, and what is wrong. -/
def RetSSE (w w' : World) (e : Ending) (r : List Nat × List Nat × Int) : Prop :=
  (∃ A c B d, e = .returned (.tuple #[.slice A r.1.length c, .slice B r.2.1.length d, .int .i64 r.2.2]) ∧ Rd w' A c r.1 ∧ Rd w' B d r.2.1) ∧ Below w.heap.size w w'

theorem bit_of {xs : List Nat} (h : Ok xs) (k : Nat) : at0 xs (k / 32) / 2 ^ (k % 32) % 2 = val xs / 2 ^ k % 2 := by
  rw [digit_of h]
  have e1 : (4294967296 : Nat) ^ (k / 32) = 2 ^ (32 * (k / 32)) := by rw [Nat.pow_mul]
  have e2 : (2 : Nat) ^ k = 2 ^ (32 * (k / 32)) * 2 ^ (k % 32) := by rw [← Nat.pow_add]; congr 1; omega
  rw [e1, e2, ← Nat.div_div_eq_div_mul]
  generalize val xs / 2 ^ (32 * (k / 32)) = X
  have hd : (4294967296 : Nat) = 2 ^ (k % 32) * 2 ^ (32 - k % 32) := by rw [← Nat.pow_add, show k % 32 + (32 - k % 32) = 32 by omega]
  rw [hd, Nat.mod_mul_right_div_self]
  have hd2 : (2 : Nat) ∣ 2 ^ (32 - k % 32) := ⟨2 ^ (31 - k % 32), by rw [Nat.mul_comm, ← Nat.pow_succ]; congr 1; omega⟩
  exact Nat.mod_mod_of_dvd _ hd2

theorem half_step (N k : Nat) : N / 2 ^ k = 2 * (N / 2 ^ (k + 1)) + N / 2 ^ k % 2 := by
  rw [Nat.pow_succ, ← Nat.div_div_eq_div_mul]
  omega
theorem bit_step {M V b : Nat} (_hV : 0 < V) (hlt : 2 * (M % V) + b < V) : (2 * M + b) / V = 2 * (M / V) ∧ (2 * M + b) % V = 2 * (M % V) + b := by
  have hm := Nat.div_add_mod M V
  have e : 2 * M + b = (2 * (M % V) + b) + V * (2 * (M / V)) := by
    rw [Nat.mul_left_comm]
    omega
  rw [e, Nat.add_mul_div_left _ _ (by omega), Nat.add_mul_mod_self_left, Nat.div_eq_of_lt hlt, Nat.mod_eq_of_lt hlt]
  exact ⟨by omega, rfl⟩
theorem bit_step1 {M V b : Nat} (hV : 0 < V) (hb : b ≤ 1) (hge : ¬ 2 * (M % V) + b < V) : (2 * M + b) / V = 2 * (M / V) + 1 ∧ (2 * M + b) % V = 2 * (M % V) + b - V := by
  have hm := Nat.div_add_mod M V
  have hlt := Nat.mod_lt M hV
  have e : 2 * M + b = (2 * (M % V) + b - V) + V * (2 * (M / V) + 1) := by
    rw [Nat.mul_add, Nat.mul_left_comm, Nat.mul_one]
    omega
  rw [e, Nat.add_mul_div_left _ _ (by omega), Nat.add_mul_mod_self_left, Nat.div_eq_of_lt (by omega), Nat.mod_eq_of_lt (by omega)]
  exact ⟨by omega, rfl⟩

theorem hrl_le {ys : List Nat} {R : Nat} (h : dig (val ys) = ys) (hl : ys.length ≤ 256) (hR : R < val ys) : (dig (R + 1)).length ≤ 256 := by
  have := dig_len_mono (m := R + 1) (n := val ys) (by omega)
  rw [h] at this
  omega
theorem len_zero_b {ys : List Nat} (h : ys ≠ []) : ((ys.length : Int) == 0) = false := by
  have := List.length_pos_iff.2 h
  simp
  omega

end Go.Proofs.YtpfhgkielakmoaaDoor

namespace Go.Proofs.YtpfhgkielakmoaaDoor
open Go.RowKit Num

theorem at0_take {xs : List Nat} {n i : Nat} (h : i < n) : at0 (xs.take n) i = at0 xs i := by
  unfold at0
  rw [List.getD_eq_getElem?_getD, List.getD_eq_getElem?_getD, List.getElem?_take, if_pos h]
theorem Rd.far {w : World} {A : Option Addr} {c g : Nat} {xs : List Nat} (h : Rd w A c xs) (hne : Off A g) (i : Nat) (u : Value) : Rd (w.setCell ⟨g, i, none⟩ u) A c xs := h.grown (gb_set (gb_refl w (some g)) i u) hne

/-- The count of noughts ahead. -/
theorem lz_facts {y : Nat} (hy : 0 < y) (hy' : y < 4294967296) : 32 - bitLen y ≤ 31 ∧ y * 2 ^ (32 - bitLen y) + 2 ^ (32 - bitLen y) ≤ 4294967296 := by
  have h1 := bitLen_le y 32 (by omega)
  have h2 := (bitLen_spec y).1
  have h3 : 1 ≤ bitLen y := by
    rcases Nat.eq_zero_or_pos (bitLen y) with h | h
    · rw [h] at h2
      omega
    · exact h
  refine ⟨by omega, ?_⟩
  have : (y + 1) * 2 ^ (32 - bitLen y) ≤ 2 ^ bitLen y * 2 ^ (32 - bitLen y) := Nat.mul_le_mul_right _ h2
  rw [← Nat.pow_add, show bitLen y + (32 - bitLen y) = 32 by omega, Nat.add_mul, Nat.one_mul] at this
  exact this

end Go.Proofs.YtpfhgkielakmoaaDoor

namespace Go.Proofs.YtpfhgkielakmoaaDoor
open Go.RowKit Num

theorem len_one {ys : List Nat} (h : ys.length = 1) : val ys = at0 ys 0 := by
  match ys, h with
  | [y], _ => simp [val, at0]


end Go.Proofs.YtpfhgkielakmoaaDoor

namespace Go.Proofs.YtpfhgkielakmoaaDoor
open Go.RowKit Num

def textR (xs : List Nat) : List UInt8 × Int := if rightB xs then (decS (val xs), 0) else ([], 2)
/-- A text, and what is wrong. -/
def RetTE (w w' : World) (e : Ending) (r : List UInt8 × Int) : Prop := e = .returned (.tuple #[.string ⟨r.1.toArray⟩, .int .i64 r.2]) ∧ Below w.heap.size w w'
theorem ofNat_toNat {n : Nat} (h : n < 256) : (UInt8.ofNat n).toNat = n := by simp; omega
theorem OwnB.lenOf {w : World} {base : Nat} {v : Value} {xs : List UInt8} (h : OwnB w base v xs) : lenOf v = xs.length := by
  rcases h.form with ⟨rfl, rfl⟩ | ⟨g, cap, rfl, _⟩ <;> rfl

end Go.Proofs.YtpfhgkielakmoaaDoor

namespace Go.Proofs.YtpfhgkielakmoaaDoor
open Go.RowKit Num

theorem lit1 (w : World) (d : Nat) {D : Int} {g : Nat} (hD : D = (d : Int)) (hg : g = w.heap.size) (h : d < 4294967296) : Rd (w.alloc (.cells #[.int .u32 D] 129)) (some ⟨g, 0, none⟩) 1 [d] := by
  subst hD hg
  have hr : Row (w.alloc (.cells #[.int .u32 (d : Int)] 129)) w.heap.size [d] := heap_alloc_new w _
  exact hr.rd (Ok.cons h Ok.nil) (by simp)
theorem lit2 (w : World) (a b : Nat) {C D : Int} {g : Nat} (hC : C = (a : Int)) (hD : D = (b : Int)) (hg : g = w.heap.size) (h : a < 4294967296) (h' : b < 4294967296) : Rd (w.alloc (.cells #[.int .u32 C, .int .u32 D] 129)) (some ⟨g, 0, none⟩) 2 [a, b] := by
  subst hC hD hg
  exact (row_two w a b).rd (Ok.cons h (Ok.cons h' Ok.nil)) (by simp)
theorem below_alloc {w0 w : World} {B : Nat} (h : Below B w0 w) (hB : B ≤ w0.heap.size) (o : Obj) : Below B w0 (w.alloc o) := h.alloc (Nat.le_trans hB h.size) o

theorem dig_lit (xs : List Nat) (h : Ok xs) (hf : Fine xs) (n : Nat) (hn : val xs = n) : dig n = xs := by rw [← hn, dig_val h hf]
theorem ok1 {a : Nat} (h : a < 4294967296) : Ok [a] := Ok.cons h Ok.nil
theorem ok2 {a b : Nat} (h : a < 4294967296) (h' : b < 4294967296) : Ok [a, b] := Ok.cons h (ok1 h')
theorem right1 {a : Nat} (h : a ≠ 0) : rightB [a] = true := by simp [rightB, Fine, h]
theorem right2 {a b : Nat} (h : b ≠ 0) : rightB [a, b] = true := by simp [rightB, Fine, h]

theorem alive_add : addR [4294967295] [1] = ([0, 1], 0) := by
  have e : dig 4294967296 = [0, 1] := dig_lit [0, 1] (ok2 (by decide) (by decide)) (by simp [Fine]) _ (by simp [val])
  rw [addR_eq (right1 (by decide)) (right1 (by decide))]
  have e2 : val [4294967295] + val [1] = 4294967296 := by simp [val]
  rw [e2]
  unfold fitR
  rw [e]
  rfl
theorem alive_text : textR [0, 1] = ([52, 50, 57, 52, 57, 54, 55, 50, 57, 54], 0) := by
  unfold textR
  rw [if_pos (right2 (by decide))]
  have e2 : val [0, 1] = 4294967296 := by simp [val]
  rw [e2]
  simp [decS, decR_pos, decR_zero]
theorem alive_div : divR [7] [2] = ([3], [1], 0) := by
  rw [divR_eq (right1 (by decide)) (right1 (by decide)) (by simp)]
  have e1 : val [7] / val [2] = 3 := by simp [val]
  have e2 : val [7] % val [2] = 1 := by simp [val]
  rw [e1, e2, dig_lit [3] (ok1 (by decide)) (by simp [Fine]) 3 (by simp [val]), dig_lit [1] (ok1 (by decide)) (by simp [Fine]) 1 (by simp [val])]
theorem alive_right : rightB [1, 0] = false := by simp [rightB, Fine]

end Go.Proofs.YtpfhgkielakmoaaDoor

namespace Go.Proofs.YtpfhgkielakmoaaDoor
open Go.RowKit Num

theorem Rd.len {w : World} {A : Option Addr} {c : Nat} {xs : List Nat} (h : Rd w A c xs) : xs.length ≤ 9223372036854775807 := by
  have h1 := h.room
  have h2 := h.cap
  unfold maxLen at h2
  omega
theorem divR_len {xs ys : List Nat} (h1 : xs.length ≤ 40) (_ : ys.length ≤ 40) (ho : Ok xs) (_ : Ok ys) : (divR xs ys).1.length ≤ 40 ∧ (divR xs ys).2.1.length ≤ 40 := by
  unfold divR
  split
  · refine ⟨?_, ?_⟩
    · exact Nat.le_trans (dig_len_mono (Nat.div_le_self _ _)) (Nat.le_trans (dig_len_le xs ho) h1)
    · exact Nat.le_trans (dig_len_mono (Nat.mod_le _ _)) (Nat.le_trans (dig_len_le xs ho) h1)
  · exact ⟨Nat.zero_le _, Nat.zero_le _⟩




end Go.Proofs.YtpfhgkielakmoaaDoor

namespace Go.Proofs.YtpfhgkielakmoaaDoor
open Go.RowKit Num

def parseR (l : List UInt8) : List Nat × Int := if formB l then (if l.length ≤ 2000 then fitR (numOf l) else ([], 3)) else ([], 5)
theorem parseR_form {l : List UInt8} (h : formB l = false) : parseR l = ([], 5) := by unfold parseR; rw [h]; rfl
theorem formB_empty : formB [] = false := by simp [formB]
theorem formB_zero {l : List UInt8} (h1 : 1 < l.length) (h2 : l.head? = some 48) : formB l = false := decide_eq_false (fun h => h.2.1 ⟨h1, h2⟩)
theorem formB_bad {l : List UInt8} {k : Nat} {c : UInt8} (h1 : l[k]? = some c) (h2 : ¬ (48 ≤ c.toNat ∧ c.toNat ≤ 57)) : formB l = false :=
  decide_eq_false (fun h => h2 (isD_iff (h.2.2 c (List.mem_of_getElem? h1))))
theorem formB_good {l : List UInt8} (h1 : l ≠ []) (h2 : ¬ (1 < l.length ∧ l.head? = some 48)) (h3 : ∀ c ∈ l, isD c = true) : formB l = true := decide_eq_true ⟨h1, h2, h3⟩
theorem parseR_long {l : List UInt8} (h : formB l = true) (h2 : ¬ l.length ≤ 2000) : parseR l = ([], 3) := by unfold parseR; rw [if_pos h, if_neg h2]
theorem parseR_ok {l : List UInt8} (h : formB l = true) (h2 : l.length ≤ 2000) : parseR l = fitR (numOf l) := by unfold parseR; rw [if_pos h, if_pos h2]
theorem numOf_take {l : List UInt8} {k : Nat} {c : UInt8} (h : l[k]? = some c) : numOf (l.take (k + 1)) = 10 * numOf (l.take k) + (c.toNat - 48) := by
  have hk : k < l.length := (List.getElem?_eq_some_iff.1 h).1
  rw [List.take_succ_eq_append_getElem hk, numOf_snoc]
  have := (List.getElem?_eq_some_iff.1 h).2
  rw [this]
theorem digits_take {l : List UInt8} {k : Nat} {c : UInt8} (h : l[k]? = some c) (hc : 48 ≤ c.toNat ∧ c.toNat ≤ 57) (hd : ∀ x ∈ l.take k, isD x = true) : ∀ x ∈ l.take (k + 1), isD x = true := by
  have hk : k < l.length := (List.getElem?_eq_some_iff.1 h).1
  rw [List.take_succ_eq_append_getElem hk]
  intro x hx
  rcases List.mem_append.1 hx with hx | hx
  · exact hd x hx
  · have := (List.getElem?_eq_some_iff.1 h).2
    rw [this] at hx
    have hx' : x = c := by simpa using hx
    subst hx'
    exact decide_eq_true hc

theorem Own.form {w : World} {base : Nat} {v : Value} {xs : List Nat} (h : Own w base v xs) : (v = .slice none 0 0 ∧ xs = []) ∨ ∃ g cap, v = .slice (some ⟨g, 0, none⟩) xs.length cap ∧ base ≤ g := by
  rcases h.2 with ⟨hv, h0⟩ | ⟨g, cap, cur, hv, hg, _⟩
  · exact .inl ⟨hv, List.eq_nil_of_length_eq_zero h0⟩
  · exact .inr ⟨g, cap, hv, hg⟩
theorem Own.set {w : World} {base g cap n : Nat} {xs : List Nat} (h : Own w base (.slice (some ⟨g, 0, none⟩) n cap) xs) (hn : xs.length = n) (j d : Nat) {D : Int} (hD : D = (d : Int)) :
    Own (w.setCell ⟨g, j, none⟩ (.int .u32 D)) base (.slice (some ⟨g, 0, none⟩) n cap) (xs.set j d) := by
  subst hn hD
  have := World.ownsRow.stored h j (dv d)
  unfold Own
  rw [List.length_set, List.map_set]
  exact this.1
theorem Own.cell {w : World} {base g cap n : Nat} {xs : List Nat} (h : Own w base (.slice (some ⟨g, 0, none⟩) n cap) xs) (hn : xs.length = n) {j : Nat} (hj : j < xs.length) :
    w.cell? ⟨g, j, none⟩ = some (.int .u32 xs[j]) ∧ w.frozen? ⟨g, j, none⟩ = false := by
  subst hn
  refine ⟨?_, World.ownsRow.frozenAt h j⟩
  rw [World.ownsRow.cellAt h j (by omega)]
  simp [hj, dv]

theorem nat_pos_or (n : Nat) : n = 0 ∨ 0 < n := Nat.eq_zero_or_pos n



end Go.Proofs.YtpfhgkielakmoaaDoor

namespace Go.Proofs.YtpfhgkielakmoaaDoor
open Go.RowKit Num

theorem fitR_len (n : Nat) : (fitR n).1.length ≤ 256 := by
  unfold fitR
  split
  · assumption
  · exact Nat.zero_le _
theorem addR_len (xs ys : List Nat) : (addR xs ys).1.length ≤ 256 := by
  unfold addR
  split
  · exact fitR_len _
  · exact Nat.zero_le _
theorem mulR_len (xs ys : List Nat) : (mulR xs ys).1.length ≤ 256 := by
  unfold mulR
  split
  · exact fitR_len _
  · exact Nat.zero_le _
theorem subR_len {xs ys : List Nat} (ho : Ok xs) (h : xs.length ≤ 256) : (subR xs ys).1.length ≤ 256 := by
  unfold subR
  split
  · exact Nat.le_trans (dig_len_mono (Nat.sub_le _ _)) (Nat.le_trans (dig_len_le xs ho) h)
  · exact Nat.zero_le _




end Go.Proofs.YtpfhgkielakmoaaDoor

namespace Go.Proofs.YtpfhgkielakmoaaDoor
open Go.RowKit Num

theorem fitR_le {n : Nat} (h : (dig n).length ≤ 256) : fitR n = (dig n, 0) := by simp [fitR, h]
theorem small_len {xs : List Nat} (h : Ok xs) (hl : xs.length ≤ 40) : val xs < 4294967296 ^ 40 := Nat.lt_of_lt_of_le (val_lt h) (Nat.pow_le_pow_right (by decide) hl)
theorem add_small {xs ys : List Nat} (ho : Ok xs) (ho' : Ok ys) (h1 : rightB xs = true) (h2 : rightB ys = true) (hx : xs.length ≤ 40) (hy : ys.length ≤ 40) :
    addR xs ys = (dig (val xs + val ys), 0) ∧ (dig (val xs + val ys)).length ≤ 41 := by
  have := sum_len (small_len ho hx) (small_len ho' hy)
  exact ⟨by rw [addR_eq h1 h2, fitR_le (by omega)], this⟩
theorem right_dig' {n : Nat} (h : (dig n).length ≤ 256) : rightB (dig n) = true := by
  unfold rightB
  exact decide_eq_true ⟨h, fine_dig n⟩
theorem ok_same {xs ys : List Nat} (hx : dig (val xs) = xs) (hy : dig (val ys) = ys) : decide (xs = ys) = decide (val xs = val ys) := by
  by_cases h : val xs = val ys
  · rw [decide_eq_true h]
    exact decide_eq_true (by rw [← hx, ← hy, h])
  · rw [decide_eq_false h]
    exact decide_eq_false (fun e => h (by rw [e]))




end Go.Proofs.YtpfhgkielakmoaaDoor

namespace Go.Proofs.YtpfhgkielakmoaaDoor
open Go.RowKit Num

theorem mul_dig {m n k l : Nat} (h1 : (dig m).length ≤ k) (h2 : (dig n).length ≤ l) (_hk : k ≤ 256) (_hl : l ≤ 256) (hs : k + l ≤ 256) : mulR (dig m) (dig n) = (dig (m * n), 0) ∧ (dig (m * n)).length ≤ k + l := by
  have := prod_len (le_of_dig_length h1) (le_of_dig_length h2)
  refine ⟨?_, this⟩
  rw [mulR_eq (right_dig' (by omega)) (right_dig' (by omega)), val_dig, val_dig, fitR_le (by omega)]
theorem add_dig {m n k : Nat} (h1 : (dig m).length ≤ k) (h2 : (dig n).length ≤ k) (hk : k ≤ 255) : addR (dig m) (dig n) = (dig (m + n), 0) ∧ (dig (m + n)).length ≤ k + 1 := by
  have := sum_len_le h1 h2
  refine ⟨?_, this⟩
  rw [addR_eq (right_dig' (by omega)) (right_dig' (by omega)), val_dig, val_dig, fitR_le (by omega)]



end Go.Proofs.YtpfhgkielakmoaaDoor

namespace Go.Proofs.YtpfhgkielakmoaaDoor
open Go.RowKit Num

def uintR (xs : List Nat) : Nat × Int := if rightB xs then (if xs.length ≤ 2 then (val xs, 0) else (0, 4)) else (0, 2)
/-- A number of 64 bits, and what is wrong. -/
def RetUE (e : Ending) (r : Nat × Int) : Prop := e = .returned (.tuple #[.int .u64 r.1, .int .i64 r.2])

theorem or_high (x y : Int) (hx : 0 ≤ x) (hx' : x < 4294967296) (hy : 0 ≤ y) (hy' : y < 4294967296) : bits .or .u64 y (x * 4294967296) = y + x * 4294967296 := by
  rw [u64_or _ _ hy (by omega) (by omega) (by omega)]
  have h := or_join x y hx hx' hy hy'
  rw [u64_or _ _ (by omega) (by omega) hy (by omega)] at h
  rw [Nat.or_comm, h]
  omega
theorem or_zero (x : Int) (hx : 0 ≤ x) (hx' : x < 4294967296) : bits .or .u64 0 x = x := by
  rw [u64_or _ _ (by decide) (by decide) hx (by omega)]
  simp
  omega

end Go.Proofs.YtpfhgkielakmoaaDoor

namespace Go.Proofs.YtpfhgkielakmoaaDoor
open Go.RowKit Num

theorem parseR_cases (l : List UInt8) : (∃ c : Int, parseR l = ([], c) ∧ (c == 0) = false) ∨ (parseR l = (dig (numOf l), 0) ∧ decS (numOf l) = l ∧ (dig (numOf l)).length ≤ 256) := by
  by_cases h : formB l = true
  · by_cases h2 : l.length ≤ 2000
    · rw [parseR_ok h h2]
      unfold fitR
      by_cases h3 : (dig (numOf l)).length ≤ 256
      · rw [if_pos h3]
        exact .inr ⟨rfl, decS_numOf l h, h3⟩
      · rw [if_neg h3]
        exact .inl ⟨3, rfl, by decide⟩
    · rw [parseR_long h h2]
      exact .inl ⟨3, rfl, by decide⟩
  · rw [parseR_form (by simpa using h)]
    exact .inl ⟨5, rfl, by decide⟩
theorem textR_dig {n : Nat} (h : (dig n).length ≤ 256) : textR (dig n) = (decS n, 0) := by
  unfold textR
  rw [if_pos (right_dig' h), val_dig]
theorem decS_len {n : Nat} (h : (dig n).length ≤ 40) : (decS n).length ≤ 401 := by
  unfold decS
  split
  · simp
  · have := decR_len_dig h
    simp
    omega
theorem parseR_dec {n : Nat} (h : (dig n).length ≤ 40) : parseR (decS n) = (dig n, 0) := by
  rw [parseR_ok (formB_decS n) (by have := decS_len h; omega), numOf_decS, fitR_le (by omega)]
theorem sub_dig {a b : Nat} (_ : (dig a).length ≤ 40) (h2 : (dig b).length ≤ 40) (h3 : (dig (a + b)).length ≤ 41) : subR (dig (a + b)) (dig b) = (dig a, 0) := by
  rw [subR_eq (right_dig' (by omega)) (right_dig' (by omega)) (by rw [val_dig, val_dig]; omega), val_dig, val_dig, Nat.add_sub_cancel]
theorem div_dig {a b : Nat} (h1 : (dig a).length ≤ 40) (h2 : (dig b).length ≤ 40) (h : dig b ≠ []) : divR (dig a) (dig b) = (dig (a / b), dig (a % b), 0) := by
  rw [divR_eq (right_dig' (by omega)) (right_dig' (by omega)) h, val_dig, val_dig]
theorem back_dig {a b : Nat} (h1 : (dig a).length ≤ 40) (h2 : (dig b).length ≤ 40) (hb : 0 < b) : (dig (a / b)).length ≤ 40 ∧ (dig (a % b)).length ≤ 40 ∧ mulR (dig (a / b)) (dig b) = (dig (a / b * b), 0) ∧ (dig (a / b * b)).length ≤ 80 ∧
    addR (dig (a / b * b)) (dig (a % b)) = (dig a, 0) ∧ cmpR (dig (a % b)) (dig b) = (-1, 0) := by
  have q1 : (dig (a / b)).length ≤ 40 := Nat.le_trans (dig_len_mono (Nat.div_le_self _ _)) h1
  have q2 : (dig (a % b)).length ≤ 40 := Nat.le_trans (dig_len_mono (Nat.mod_le _ _)) h1
  obtain ⟨m1, m2⟩ := mul_dig q1 h2 (by decide) (by decide) (by decide)
  obtain ⟨s1, _⟩ := add_dig (m := a / b * b) (n := a % b) (k := 80) m2 (by omega) (by decide)
  have e : a / b * b + a % b = a := by rw [Nat.mul_comm]; exact Nat.div_add_mod a b
  rw [e] at s1
  refine ⟨q1, q2, m1, m2, s1, ?_⟩
  rw [cmpR_eq (right_dig' (by omega)) (right_dig' (by omega)), val_dig, val_dig, cmpN_lt (Nat.mod_lt _ hb)]
theorem bytes_eta (s : ByteArray) : (⟨s.data.toList.toArray⟩ : ByteArray) = s := by
  cases s
  simp
end Go.Proofs.YtpfhgkielakmoaaDoor

set_option linter.unusedSimpArgs false
set_option linter.unusedVariables false
namespace Go.Proofs.YtpfhgkielakmoaaDoor
open Go.RowKit Num

/-- May the number be? -/
def sright (neg : Bool) (xs : List Nat) : Bool := rightB xs && (!neg || decide (xs ≠ []))
/-- The whole number. -/
def sv (neg : Bool) (xs : List Nat) : Int := if neg then -(val xs : Int) else val xs
def sN (z : Int) : Bool := decide (z < 0)
def sD (z : Int) : List Nat := dig z.natAbs
abbrev R3 := Bool × List Nat × Int
def sok (z : Int) : R3 := (sN z, sD z, 0)
def sbad (c : Int) : R3 := (false, [], c)
def sfit (z : Int) : R3 := if (sD z).length ≤ 256 then sok z else sbad 3

theorem sright_rightB {neg : Bool} {xs : List Nat} (h : sright neg xs = true) : rightB xs = true := by
  unfold sright at h
  rw [Bool.and_eq_true] at h
  exact h.1
theorem sright_ne {xs : List Nat} (h : sright true xs = true) : xs ≠ [] := by
  unfold sright at h
  simp at h
  exact h.2
theorem sright_of {neg : Bool} {xs : List Nat} (h : rightB xs = true) (h2 : neg = true → xs ≠ []) : sright neg xs = true := by
  unfold sright
  rw [h]
  cases neg
  · rfl
  · simp [h2 rfl]
theorem val_pos_right {xs : List Nat} (ho : Ok xs) (h : rightB xs = true) (hne : xs ≠ []) : 0 < val xs := by
  have := right_dig ho h
  rcases Nat.eq_zero_or_pos (val xs) with h0 | h0
  · rw [h0] at this
    exact absurd this.symm hne
  · exact h0
theorem sN_of (n : Bool) (m : Nat) (h : n = true → 0 < m) : sN (if n then -(m : Int) else m) = n := by
  unfold sN
  cases n
  · simp
  · have := h rfl
    simp
    omega
theorem sD_of (n : Bool) (m : Nat) : sD (if n then -(m : Int) else m) = dig m := by
  unfold sD
  cases n <;> simp
theorem sv_neg {neg : Bool} {xs : List Nat} (ho : Ok xs) (h : sright neg xs = true) : sN (sv neg xs) = neg :=
  sN_of neg (val xs) (fun e => val_pos_right ho (sright_rightB h) (by subst e; exact sright_ne h))
theorem sv_dig {neg : Bool} {xs : List Nat} (ho : Ok xs) (h : sright neg xs = true) : sD (sv neg xs) = xs := by
  unfold sv
  rw [sD_of]
  exact right_dig ho (sright_rightB h)
theorem sv_abs (neg : Bool) (xs : List Nat) : (sv neg xs).natAbs = val xs := by unfold sv; cases neg <;> simp
theorem sD_ok (z : Int) : Ok (sD z) := dig_ok _
theorem sright_sd {z : Int} (h : (sD z).length ≤ 256) : sright (sN z) (sD z) = true := by
  refine sright_of (right_dig' h) (fun e => ?_)
  unfold sN at e
  have hz : z < 0 := of_decide_eq_true e
  intro h0
  have := dig_eq_nil.1 h0
  omega
theorem sv_sd (z : Int) : sv (sN z) (sD z) = z := by
  unfold sv sN sD
  rw [val_dig]
  by_cases h : z < 0 <;> simp [h] <;> omega
theorem sN_zero : sN 0 = false := rfl
theorem sD_zero : sD 0 = [] := rfl
theorem sok_zero : sok 0 = (false, [], 0) := rfl
theorem sD_nil {z : Int} : sD z = [] ↔ z = 0 := by
  unfold sD
  rw [dig_eq_nil]
  omega
theorem sD_neg (z : Int) : sD (-z) = sD z := by unfold sD; rw [Int.natAbs_neg]

def saddR (n : Bool) (xs : List Nat) (m : Bool) (ys : List Nat) : R3 := if sright n xs && sright m ys then sfit (sv n xs + sv m ys) else sbad 2
def smulR (n : Bool) (xs : List Nat) (m : Bool) (ys : List Nat) : R3 := if sright n xs && sright m ys then sfit (sv n xs * sv m ys) else sbad 2
def snegR (n : Bool) (xs : List Nat) : R3 := if sright n xs then sok (-(sv n xs)) else sbad 2
def sgcdR (n : Bool) (xs : List Nat) (m : Bool) (ys : List Nat) : R3 := if sright n xs && sright m ys then sok (Nat.gcd (val xs) (val ys)) else sbad 2
/-- How two whole numbers follow each other. -/
def cmpZ (a b : Int) : Int := if a < b then -1 else if b < a then 1 else 0
def scmpR (n : Bool) (xs : List Nat) (m : Bool) (ys : List Nat) : Int × Int := if sright n xs && sright m ys then (cmpZ (sv n xs) (sv m ys), 0) else (0, 2)
def ssmallR (n : Bool) (xs : List Nat) : Int × Int := if sright n xs then (if -9223372036854775808 ≤ sv n xs ∧ sv n xs < 9223372036854775808 then (sv n xs, 0) else (0, 4)) else (0, 2)
/-- A quotient and what is left, and what is wrong. -/
abbrev R5 := Bool × List Nat × Bool × List Nat × Int
def dok (q r : Int) : R5 := (sN q, sD q, sN r, sD r, 0)
def dbad (c : Int) : R5 := (false, [], false, [], c)
def sdivR (n : Bool) (xs : List Nat) (m : Bool) (ys : List Nat) : R5 :=
  if sright n xs && sright m ys && decide (ys ≠ []) then (if (sD (Int.fdiv (sv n xs) (sv m ys))).length ≤ 256 then dok (Int.fdiv (sv n xs) (sv m ys)) (Int.fmod (sv n xs) (sv m ys)) else dbad 3) else dbad 2
/-- A number's text. -/
def intS (z : Int) : List UInt8 := if z < 0 then 45 :: decS z.natAbs else decS z.natAbs
def stextR (n : Bool) (xs : List Nat) : List UInt8 × Int := if sright n xs then (intS (sv n xs), 0) else ([], 2)
/-- The number of a text. -/
def sparseR (l : List UInt8) : R3 :=
  if l.head? = some 45 then (if (parseR l.tail).2 = 0 then (if (parseR l.tail).1 = [] then sbad 5 else (true, (parseR l.tail).1, 0)) else sbad (parseR l.tail).2) else (false, (parseR l).1, (parseR l).2)

end Go.Proofs.YtpfhgkielakmoaaDoor

namespace Go.Proofs.YtpfhgkielakmoaaDoor
open Go.RowKit Num

/-- What 'made' tells. -/
def madeR (n : Bool) (r : List Nat × Int) : R3 := if r.2 = 0 then (n && decide (r.1 ≠ []), r.1, 0) else sbad r.2
theorem madeR_dig (n : Bool) (k : Nat) : madeR n (dig k, 0) = sok (if n then -(k : Int) else k) := by
  unfold madeR sok
  rw [if_pos rfl, sD_of]
  refine Prod.ext ?_ rfl
  show (n && decide (dig k ≠ [])) = sN (if n then -(k : Int) else k)
  unfold sN
  cases n
  · simp
  · by_cases h : k = 0
    · subst h
      rfl
    · have : dig k ≠ [] := fun e => h (dig_eq_nil.1 e)
      simp [this]
      omega
theorem madeR_fit (n : Bool) (k : Nat) : madeR n (fitR k) = sfit (if n then -(k : Int) else k) := by
  unfold fitR sfit
  rw [sD_of]
  by_cases h : (dig k).length ≤ 256
  · rw [if_pos h, if_pos h, madeR_dig]
  · rw [if_neg h, if_neg h]
    rfl
theorem sfit_of {z : Int} (h : (sD z).length ≤ 256) : sfit z = sok z := by unfold sfit; rw [if_pos h]
theorem sfit_big {z : Int} (h : ¬ (sD z).length ≤ 256) : sfit z = sbad 3 := by unfold sfit; rw [if_neg h]
theorem saddR_eq {n m : Bool} {xs ys : List Nat} (h1 : sright n xs = true) (h2 : sright m ys = true) : saddR n xs m ys = sfit (sv n xs + sv m ys) := by unfold saddR; rw [h1, h2]; rfl
theorem saddR_no {n m : Bool} {xs ys : List Nat} (h : (sright n xs && sright m ys) = false) : saddR n xs m ys = sbad 2 := by unfold saddR; rw [h]; rfl
theorem smulR_eq {n m : Bool} {xs ys : List Nat} (h1 : sright n xs = true) (h2 : sright m ys = true) : smulR n xs m ys = sfit (sv n xs * sv m ys) := by unfold smulR; rw [h1, h2]; rfl
theorem smulR_no {n m : Bool} {xs ys : List Nat} (h : (sright n xs && sright m ys) = false) : smulR n xs m ys = sbad 2 := by unfold smulR; rw [h]; rfl
theorem sgcdR_eq {n m : Bool} {xs ys : List Nat} (h1 : sright n xs = true) (h2 : sright m ys = true) : sgcdR n xs m ys = sok (Nat.gcd (val xs) (val ys)) := by unfold sgcdR; rw [h1, h2]; rfl
theorem sgcdR_no {n m : Bool} {xs ys : List Nat} (h : (sright n xs && sright m ys) = false) : sgcdR n xs m ys = sbad 2 := by unfold sgcdR; rw [h]; rfl
theorem scmpR_eq {n m : Bool} {xs ys : List Nat} (h1 : sright n xs = true) (h2 : sright m ys = true) : scmpR n xs m ys = (cmpZ (sv n xs) (sv m ys), 0) := by unfold scmpR; rw [h1, h2]; rfl
theorem scmpR_no {n m : Bool} {xs ys : List Nat} (h : (sright n xs && sright m ys) = false) : scmpR n xs m ys = (0, 2) := by unfold scmpR; rw [h]; rfl
/-- One sign: the sum's digits are those of the digits' sum. -/
theorem sadd_same {n : Bool} {xs ys : List Nat} (h1 : sright n xs = true) (h2 : sright n ys = true) : saddR n xs n ys = madeR n (addR xs ys) := by
  rw [saddR_eq h1 h2, addR_eq (sright_rightB h1) (sright_rightB h2), madeR_fit]
  unfold sv
  cases n <;> simp <;> congr 1 <;> omega
theorem len_dig_sub {xs : List Nat} (ho : Ok xs) (h : rightB xs = true) (n : Nat) (hn : n ≤ val xs) : (dig n).length ≤ 256 := by
  have := dig_len_mono hn
  rw [right_dig ho h] at this
  exact Nat.le_trans this (right_len h)
theorem sadd_sub {n m : Bool} {xs ys : List Nat} (ho : Ok xs) (hnm : (n == m) = false) (h1 : sright n xs = true) (h2 : sright m ys = true) (hle : val ys ≤ val xs) : saddR n xs m ys = madeR n (subR xs ys) := by
  rw [saddR_eq h1 h2, subR_eq (sright_rightB h1) (sright_rightB h2) hle, madeR_dig]
  have e : sv n xs + sv m ys = if n then -((val xs - val ys : Nat) : Int) else ((val xs - val ys : Nat) : Int) := by
    unfold sv
    cases n <;> cases m <;> simp at hnm ⊢ <;> omega
  rw [e, sfit_of]
  rw [sD_of]
  exact len_dig_sub ho (sright_rightB h1) _ (Nat.sub_le _ _)
theorem saddR_comm (n m : Bool) (xs ys : List Nat) : saddR n xs m ys = saddR m ys n xs := by
  unfold saddR
  rw [Bool.and_comm, Int.add_comm]
theorem smul_made {n m : Bool} {xs ys : List Nat} (h1 : sright n xs = true) (h2 : sright m ys = true) : smulR n xs m ys = madeR (n != m) (mulR xs ys) := by
  rw [smulR_eq h1 h2, mulR_eq (sright_rightB h1) (sright_rightB h2), madeR_fit]
  unfold sv
  cases n <;> cases m <;> simp [Int.mul_neg, Int.neg_mul]
/-- How two numbers follow each other, by signs and digits. -/
theorem cmpZ_pp (a b : Nat) : cmpZ (a : Int) (b : Int) = cmpN a b := by
  unfold cmpZ cmpN
  by_cases h : a < b
  · rw [if_pos h, if_pos (by omega)]
  · rw [if_neg h, if_neg (by omega)]
    by_cases h2 : b < a
    · rw [if_pos h2, if_pos (by omega)]
    · rw [if_neg h2, if_neg (by omega)]
theorem cmpN_flip (a b : Nat) : -cmpN a b = cmpN b a := by
  rcases Nat.lt_trichotomy a b with h | h | h
  · rw [cmpN_lt h, cmpN_gt h]; rfl
  · rw [cmpN_eq h, cmpN_eq h.symm]; rfl
  · rw [cmpN_gt h, cmpN_lt h]
theorem cmpZ_nn (a b : Nat) : cmpZ (-(a : Int)) (-(b : Int)) = -cmpN a b := by
  rw [cmpN_flip, ← cmpZ_pp]
  unfold cmpZ
  by_cases h : a < b
  · rw [if_neg (by omega), if_pos (by omega), if_neg (by omega), if_pos (by omega)]
  · by_cases h2 : b < a
    · rw [if_pos (by omega), if_pos (by omega)]
    · rw [if_neg (by omega), if_neg (by omega), if_neg (by omega), if_neg (by omega)]
theorem scmp_pp (xs ys : List Nat) : cmpZ (sv false xs) (sv false ys) = cmpN (val xs) (val ys) := cmpZ_pp _ _
theorem scmp_nn (xs ys : List Nat) : cmpZ (sv true xs) (sv true ys) = -cmpN (val xs) (val ys) := cmpZ_nn _ _
theorem scmp_np {xs ys : List Nat} (ho : Ok xs) (h : sright true xs = true) : cmpZ (sv true xs) (sv false ys) = -1 := by
  have := val_pos_right ho (sright_rightB h) (sright_ne h)
  unfold cmpZ sv
  simp
  omega
theorem scmp_pn {xs ys : List Nat} (ho : Ok ys) (h : sright true ys = true) : cmpZ (sv false xs) (sv true ys) = 1 := by
  have := val_pos_right ho (sright_rightB h) (sright_ne h)
  unfold cmpZ sv
  simp
  omega
/-- Quotients rounded down, by signs. -/
theorem fdiv_same (n : Bool) (a b : Nat) (hb : 0 < b) : Int.fdiv (if n then -(a : Int) else a) (if n then -(b : Int) else b) = ((a / b : Nat) : Int) ∧ Int.fmod (if n then -(a : Int) else a) (if n then -(b : Int) else b) = (if n then -((a % b : Nat) : Int) else ((a % b : Nat) : Int)) := by
  have h1 := Nat.div_add_mod a b
  have h2 := Nat.mod_lt a hb
  have h3 : (b : Int) * ((a / b : Nat) : Int) + ((a % b : Nat) : Int) = a := by exact_mod_cast h1
  cases n
  · simp only [Bool.false_eq_true, if_false]
    exact (Int.fdiv_fmod_unique (by omega)).2 ⟨by omega, by omega, by omega⟩
  · simp only [if_true]
    refine (Int.fdiv_fmod_unique' (by omega)).2 ⟨?_, by omega, by omega⟩
    rw [Int.neg_mul]
    omega
theorem fdiv_zero (n : Bool) (a b : Nat) (hb : 0 < b) (h : a % b = 0) : Int.fdiv (if n then -(a : Int) else a) (if !n then -(b : Int) else b) = -((a / b : Nat) : Int) ∧ Int.fmod (if n then -(a : Int) else a) (if !n then -(b : Int) else b) = 0 := by
  have h1 := Nat.div_add_mod a b
  have h3 : (b : Int) * ((a / b : Nat) : Int) = a := by rw [h] at h1; exact_mod_cast h1
  cases n
  · simp only [Bool.false_eq_true, if_false, Bool.not_false, if_true]
    refine (Int.fdiv_fmod_unique' (by omega)).2 ⟨?_, by omega, by omega⟩
    rw [Int.neg_mul_neg]
    omega
  · simp only [Bool.not_true, Bool.false_eq_true, if_false, if_true]
    refine (Int.fdiv_fmod_unique (by omega)).2 ⟨?_, by omega, by omega⟩
    rw [Int.mul_neg]
    omega
theorem fdiv_down (n : Bool) (a b : Nat) (hb : 0 < b) (h : a % b ≠ 0) : Int.fdiv (if n then -(a : Int) else a) (if !n then -(b : Int) else b) = -((a / b + 1 : Nat) : Int) ∧
    Int.fmod (if n then -(a : Int) else a) (if !n then -(b : Int) else b) = (if !n then -((b - a % b : Nat) : Int) else ((b - a % b : Nat) : Int)) := by
  have h1 := Nat.div_add_mod a b
  have h2 := Nat.mod_lt a hb
  have h3 : (b : Int) * ((a / b : Nat) : Int) + ((a % b : Nat) : Int) = a := by exact_mod_cast h1
  have h4 : (b : Int) * ((a / b + 1 : Nat) : Int) = b * ((a / b : Nat) : Int) + b := by rw [Int.natCast_add, Int.mul_add]; simp
  cases n
  · simp only [Bool.false_eq_true, if_false, Bool.not_false, if_true]
    refine (Int.fdiv_fmod_unique' (by omega)).2 ⟨?_, by omega, by omega⟩
    rw [Int.neg_mul_neg, h4]
    omega
  · simp only [Bool.not_true, Bool.false_eq_true, if_false, if_true]
    refine (Int.fdiv_fmod_unique (by omega)).2 ⟨?_, by omega, by omega⟩
    rw [Int.mul_neg, h4]
    omega
end Go.Proofs.YtpfhgkielakmoaaDoor

namespace Go.Proofs.YtpfhgkielakmoaaDoor
open Go.RowKit Num

/-- A signed number as a value. -/
abbrev iv (neg : Bool) (A : Option Addr) (n c : Nat) : Value := .agg #[.bool neg, .slice A n c]
theorem below_alloc1 (w : World) (o : Obj) : Below w.heap.size w (w.alloc o) := (Below.refl w.heap.size w).alloc (Nat.le_refl _) o
/-- Behind a call all that was there reads as before. -/
theorem bcell {W w1 : World} (hb : Below W.heap.size W w1) : (∀ b o, b < W.heap.size → w1.cell? ⟨b, o, none⟩ = W.cell? ⟨b, o, none⟩) ∧ (∀ b o, b < W.heap.size → w1.frozen? ⟨b, o, none⟩ = W.frozen? ⟨b, o, none⟩) :=
  ⟨fun b o h => hb.cell (p := ⟨b, o, none⟩) h, fun b o h => hb.frozen (p := ⟨b, o, none⟩) h⟩
/-- The call hands back a number and what is wrong. -/
def RetI (w w' : World) (e : Ending) (r : R3) : Prop := (∃ A c, e = .returned (.tuple #[iv r.1 A r.2.1.length c, .int .i64 r.2.2]) ∧ Rd w' A c r.2.1) ∧ Below w.heap.size w w'
/-- The call hands back a number. -/
def RetN (w w' : World) (e : Ending) (r : Bool × List Nat) : Prop := (∃ A c, e = .returned (iv r.1 A r.2.length c) ∧ Rd w' A c r.2) ∧ Below w.heap.size w w'
/-- The call hands back two numbers and what is wrong. -/
def RetII (w w' : World) (e : Ending) (r : R5) : Prop :=
  (∃ A c B d, e = .returned (.tuple #[iv r.1 A r.2.1.length c, iv r.2.2.1 B r.2.2.2.1.length d, .int .i64 r.2.2.2.2]) ∧ Rd w' A c r.2.1 ∧ Rd w' B d r.2.2.2.1) ∧ Below w.heap.size w w'


end Go.Proofs.YtpfhgkielakmoaaDoor

namespace Go.Proofs.YtpfhgkielakmoaaDoor
open Go.RowKit Num

theorem Rd.of_none {w : World} {c : Nat} {xs : List Nat} (h : Rd w none c xs) : xs = [] := by
  rcases xs with _ | ⟨x, xs⟩
  · rfl
  · obtain ⟨b, o, h, _⟩ := h.at_ (by simp)
    cases h
/-- Block g is just the cells cs. -/
def Blk (w : World) (g : Nat) (t : TypeId) (cs : Array Value) : Prop := w.heap[g]? = some (.cells cs t (0, 0))
theorem Blk.lt {w : World} {g : Nat} {t : TypeId} {cs : Array Value} (h : Blk w g t cs) : g < w.heap.size := (Array.getElem?_eq_some_iff.1 h).1
theorem Blk.cell {w : World} {g : Nat} {t : TypeId} {cs : Array Value} (h : Blk w g t cs) (i : Nat) : w.cell? ⟨g, i, none⟩ = cs[i]? := cell_of_row w g i cs t (0, 0) h
theorem Blk.frozen {w : World} {g : Nat} {t : TypeId} {cs : Array Value} (h : Blk w g t cs) (i : Nat) : w.frozen? ⟨g, i, none⟩ = false := by
  unfold Blk at h
  simp [World.frozen?, h]
theorem Blk.new (w : World) (t : TypeId) (cs : Array Value) : Blk (w.alloc (.cells cs t)) w.heap.size t cs := heap_alloc_new w _
theorem Blk.at_ {w : World} {g : Nat} {t : TypeId} {cs : Array Value} (h : g = w.heap.size) : Blk (w.alloc (.cells cs t)) g t cs := by subst h; exact Blk.new ..
theorem Blk.drewN {w : World} {g : Nat} {t : TypeId} {cs : Array Value} (h : Blk w g t cs) (n : Nat) : Blk (w.drewN n) g t cs := h
theorem Blk.drew {w : World} {g : Nat} {t : TypeId} {cs : Array Value} (h : Blk w g t cs) : Blk w.drew g t cs := h
theorem Blk.alloc {w : World} {g : Nat} {t : TypeId} {cs : Array Value} (h : Blk w g t cs) (o : Obj) : Blk (w.alloc o) g t cs := (Below.heap_alloc w o g h.lt).trans h
theorem Blk.set_ {w : World} {g : Nat} {t : TypeId} {cs : Array Value} (h : Blk w g t cs) (i : Nat) (u : Value) : Blk (w.setCell ⟨g, i, none⟩ u) g t (cs.setIfInBounds i u) := by
  unfold Blk at h ⊢
  simp [World.setCell, Array.getElem?_modify, h]
theorem Blk.far {w : World} {g : Nat} {t : TypeId} {cs : Array Value} (h : Blk w g t cs) {p : Addr} (hp : g ≠ p.block) (u : Value) : Blk (w.setCell p u) g t cs := (Below.heap_setCell w p u g hp).trans h
theorem Blk.below {w w' : World} {g B : Nat} {t : TypeId} {cs : Array Value} (h : Blk w g t cs) (hb : Below B w w') (hB : w.heap.size ≤ B) : Blk w' g t cs := (hb.block g (Nat.lt_of_lt_of_le h.lt hB)).trans h
theorem Blk.put {w : World} {g : Nat} {t : TypeId} {u v : Value} (h : Blk w g t #[u, v]) (a b : Value) : Blk ((w.setCell ⟨g, 0, none⟩ a).setCell ⟨g, 1, none⟩ b) g t #[a, b] := (h.set_ 0 a).set_ 1 b
theorem Blk.away {w : World} {g k : Nat} {t : TypeId} {cs : Array Value} (h : Blk w g t cs) (hne : g ≠ k) (a b : Value) : Blk ((w.setCell ⟨k, 0, none⟩ a).setCell ⟨k, 1, none⟩ b) g t cs := (h.far hne a).far hne b
/-- Block g holds a signed number. -/
def IB (w : World) (g : Nat) : Prop := ∃ n A l c t, w.heap[g]? = some (.cells #[.bool n, .slice A l c] t (0, 0))
theorem IB.lt {w : World} {g : Nat} (h : IB w g) : g < w.heap.size := by
  obtain ⟨n, A, l, c, t, h⟩ := h
  exact (Array.getElem?_eq_some_iff.1 h).1
theorem Blk.ib {w : World} {g : Nat} {t : TypeId} {n : Bool} {A : Option Addr} {l c : Nat} (h : Blk w g t #[.bool n, .slice A l c]) : IB w g := ⟨n, A, l, c, t, h⟩
theorem IB.drew {w : World} {g : Nat} (h : IB w g) : IB w.drew g := h
theorem IB.new (w : World) (n : Bool) (A : Option Addr) (l c t : Nat) : IB (w.alloc (.cells #[.bool n, .slice A l c] t)) w.heap.size := ⟨n, A, l, c, t, heap_alloc_new w _⟩
theorem IB.alloc {w : World} {g : Nat} (h : IB w g) (o : Obj) : IB (w.alloc o) g := by
  have hl := h.lt
  obtain ⟨n, A, l, c, t, h⟩ := h
  exact ⟨n, A, l, c, t, (Below.heap_alloc w o g hl).trans h⟩
theorem IB.below {w w' : World} {g B : Nat} (h : IB w g) (hb : Below B w w') (hB : w.heap.size ≤ B) : IB w' g := by
  have hl := h.lt
  obtain ⟨n, A, l, c, t, h⟩ := h
  exact ⟨n, A, l, c, t, (hb.block g (Nat.lt_of_lt_of_le hl hB)).trans h⟩
theorem IB.cell {w : World} {g o d : Nat} (h : IB w g) (hc : w.cell? ⟨g, o, none⟩ = some (.int .u32 d)) : False := by
  obtain ⟨n, A, l, c, t, h⟩ := h
  rw [cell_of_row w g o _ t (0, 0) h] at hc
  match o, hc with
  | 0, hc => simp at hc
  | 1, hc => simp at hc
  | o + 2, hc => simp at hc
theorem IB.set0 {w : World} {g : Nat} (h : IB w g) (m : Bool) : IB (w.setCell ⟨g, 0, none⟩ (.bool m)) g := by
  obtain ⟨n, A, l, c, t, h⟩ := h
  exact ⟨m, A, l, c, t, by simp [World.setCell, Array.getElem?_modify, h]⟩
theorem IB.set1 {w : World} {g : Nat} (h : IB w g) (B : Option Addr) (k d : Nat) : IB (w.setCell ⟨g, 1, none⟩ (.slice B k d)) g := by
  obtain ⟨n, A, l, c, t, h⟩ := h
  exact ⟨n, B, k, d, t, by simp [World.setCell, Array.getElem?_modify, h]⟩
theorem Rd.box {w : World} {A : Option Addr} {c g : Nat} {xs : List Nat} (h : Rd w A c xs) (hg : IB w g) (i : Nat) (u : Value) : Rd (w.setCell ⟨g, i, none⟩ u) A c xs := by
  refine ⟨h.room, h.cap, h.ok, fun hn => ?_⟩
  obtain ⟨b, o, hA, hlt, hc⟩ := h.at_ hn
  refine ⟨b, o, hA, by simpa [World.setCell] using hlt, fun j hj => ?_⟩
  have hne : b ≠ g := by
    rintro rfl
    exact hg.cell (hc 0 (List.length_pos_iff.2 hn))
  rw [World.cell?_of_block (Below.heap_setCell w ⟨g, i, none⟩ u b hne)]
  exact hc j hj
theorem Rd.put {w : World} {A : Option Addr} {c g : Nat} {xs : List Nat} (h : Rd w A c xs) (hg : IB w g) (n : Bool) (u : Value) : Rd ((w.setCell ⟨g, 0, none⟩ (.bool n)).setCell ⟨g, 1, none⟩ u) A c xs := (h.box hg 0 _).box (hg.set0 n) 1 u
theorem below_put {w0 w : World} {B g : Nat} (h : Below B w0 w) (hg : B ≤ g) (u v : Value) : Below B w0 ((w.setCell ⟨g, 0, none⟩ u).setCell ⟨g, 1, none⟩ v) := (h.setCell hg _).setCell hg _

/-- What holds where a block of a number alone has turned. -/
theorem Rd.turn {w w' : World} {A : Option Addr} {c g : Nat} {xs : List Nat} (h : Rd w A c xs) (hg : w.grownBy w' (some g)) (hi : IB w g) : Rd w' A c xs := by
  refine ⟨h.room, h.cap, h.ok, fun hn => ?_⟩
  obtain ⟨b, o, hA, hlt, hc⟩ := h.at_ hn
  refine ⟨b, o, hA, Nat.lt_of_lt_of_le hlt hg.size, fun j hj => ?_⟩
  have hne : b ≠ g := by
    rintro rfl
    exact hi.cell (hc 0 (List.length_pos_iff.2 hn))
  rw [World.cell?_of_block (hg.block b hlt (fun e => hne (by injection e)))]
  exact hc j hj
theorem Blk.turn {w w' : World} {g k : Nat} {t : TypeId} {cs : Array Value} (h : Blk w g t cs) (hg : w.grownBy w' (some k)) (hne : g ≠ k) : Blk w' g t cs := (hg.block g h.lt (fun e => hne (by injection e))).trans h
theorem setRow_grown (w : World) (g : Nat) (cs : Array Value) : w.grownBy (w.setRow g cs) (some g) :=
  ⟨rfl, rfl, rfl, by simp [World.setRow], fun k _ hne => by
    have hk : g ≠ k := fun e => hne (by rw [e])
    simp [World.setRow, Array.getElem?_modify, hk]⟩
theorem Blk.row {w : World} {g : Nat} {t : TypeId} {cs : Array Value} (h : Blk w g t cs) (ds : Array Value) : Blk (w.setRow g ds) g t ds := by
  unfold Blk at h ⊢
  simp [World.setRow, Array.getElem?_modify, h]
/-- A number goes into its place. -/
theorem wp_put {ops : Array Oper} {rest : List Oper} {o : Oper} {a : Act} {Q : Exit → Act → World → Prop} {ty : TypeId} (x y : Operand) {w : World} {g : Nat} {t : TypeId} {old cs : Array Value} (hb : Blk w g t old)
    (hgd : o.guard = none) (ho : o.op = .store ty x y) (hx : a.eval x = .pointer (some ⟨g, 0, none⟩)) (hy : a.eval y = .agg cs) (hi : (Tryd.prog.info? ty).map (·.size) = some cs.size) (hs : old.size = cs.size) (h1 : cs.toList.all (·.oneCell') = true)
    (K : ∀ w', Blk w' g t cs → w.grownBy w' (some g) → wpList Tryd.prog ops Q rest (a.put o.dst undef) w') : wpList Tryd.prog ops Q (o :: rest) a w :=
  wpList_store_row hgd ty x y ho g cs hx hy t old hb hi hs (by rw [← Array.all_toList]; exact h1) (K _ (hb.row cs) (setRow_grown w g cs))
theorem Blk.both {w : World} {g : Nat} {t : TypeId} {u v : Value} (h : Blk w g t #[u, v]) : w.cell? ⟨g, 0, none⟩ = some u ∧ w.cell? ⟨g, 1, none⟩ = some v ∧ w.frozen? ⟨g, 0, none⟩ = false ∧ w.frozen? ⟨g, 1, none⟩ = false :=
  ⟨(h.cell 0).trans rfl, (h.cell 1).trans rfl, h.frozen 0, h.frozen 1⟩
end Go.Proofs.YtpfhgkielakmoaaDoor

namespace Go.Proofs.YtpfhgkielakmoaaDoor
open Go.RowKit Num

theorem below_trans {w w1 w2 : World} (h : Below w.heap.size w w1) (h2 : Below w1.heap.size w1 w2) : Below w.heap.size w w2 := h.trans (h2.mono h.size)
theorem IB.at_ {w : World} {g : Nat} {n : Bool} {A : Option Addr} {l c t : Nat} (h : g = w.heap.size) : IB (w.alloc (.cells #[.bool n, .slice A l c] t)) g := by subst h; exact IB.new ..
theorem snegR_eq {n : Bool} {xs : List Nat} (ho : Ok xs) (h : sright n xs = true) : snegR n xs = (!n && decide (xs ≠ []), xs, 0) := by
  unfold snegR
  rw [if_pos h]
  unfold sok
  rw [sD_neg, sv_dig ho h]
  refine Prod.ext ?_ rfl
  show sN (-(sv n xs)) = _
  cases n
  · by_cases hx : xs = []
    · subst hx
      simp [sv, sN, val]
    · have := val_pos_right ho (sright_rightB h) hx
      simp [sv, sN, hx]
      omega
  · simp [sv, sN]
theorem snegR_no {n : Bool} {xs : List Nat} (h : sright n xs = false) : snegR n xs = (false, [], 2) := by unfold snegR; rw [h]; rfl
theorem RetI.put {w w1 w2 : World} {e : Ending} {r : R3} {g : Nat} (h : RetI w1 w2 e r) (hb : Below w.heap.size w w1) (hg : w.heap.size ≤ g) (hi : IB w1 g) :
    ∃ A c, e = .returned (.tuple #[iv r.1 A r.2.1.length c, .int .i64 r.2.2]) ∧ (∀ u v, Rd ((w2.setCell ⟨g, 0, none⟩ (.bool u)).setCell ⟨g, 1, none⟩ v) A c r.2.1) ∧ ∀ u v, Below w.heap.size w ((w2.setCell ⟨g, 0, none⟩ u).setCell ⟨g, 1, none⟩ v) := by
  obtain ⟨⟨A, c, rfl, hr⟩, hb2⟩ := h
  exact ⟨A, c, rfl, fun u v => hr.put (hi.below hb2 (Nat.le_refl _)) u v, fun u v => below_put (below_trans hb hb2) hg u v⟩
theorem and_true {a b : Bool} (h1 : a = true) (h2 : b = true) : (a && b) = true := by rw [h1, h2]; rfl

theorem mulR_len' (xs ys : List Nat) : (mulR xs ys).1.length ≤ 100000 := Nat.le_trans (mulR_len xs ys) (by omega)
theorem addR_len' (xs ys : List Nat) : (addR xs ys).1.length ≤ 100000 := Nat.le_trans (addR_len xs ys) (by omega)

end Go.Proofs.YtpfhgkielakmoaaDoor

set_option linter.unusedSimpArgs false
set_option linter.unusedVariables false
namespace Go.Proofs.YtpfhgkielakmoaaDoor
open Go.RowKit Num

theorem subR_len' {xs : List Nat} (ys : List Nat) (ho : Ok xs) (h : rightB xs = true) : (subR xs ys).1.length ≤ 256 := subR_len ho (right_len h)
theorem sadd_less {n m : Bool} {xs ys : List Nat} (ho : Ok ys) (hnm : (n == m) = false) (h1 : sright n xs = true) (h2 : sright m ys = true) (hle : val xs ≤ val ys) : saddR n xs m ys = madeR m (subR ys xs) := by
  rw [saddR_comm]
  exact sadd_sub ho (by cases n <;> cases m <;> simp at hnm ⊢) h2 h1 hle
end Go.Proofs.YtpfhgkielakmoaaDoor

namespace Go.Proofs.YtpfhgkielakmoaaDoor
open Go.RowKit Num

/-- Two numbers in, none out: what is boxed. -/
theorem cmpN_bd (a b : Nat) : -1 ≤ cmpN a b ∧ cmpN a b ≤ 1 := by
  unfold cmpN
  split
  · omega
  · split <;> omega
theorem sd_pos {z : Int} (h : 0 ≤ z) : sN z = false ∧ sD z = dig z.toNat := by
  unfold sN sD
  exact ⟨by simpa using h, by congr 1; omega⟩
theorem sd_neg {z : Int} (h : z < 0) : sN z = true ∧ sD z = dig (-z).toNat := by
  unfold sN sD
  exact ⟨by simpa using h, by congr 1; omega⟩
theorem u64w (n : Int) : IntKind.u64.wrap n = n % 18446744073709551616 := by simp [IntKind.wrap, IntKind.bits, IntKind.signed]
theorem wrap64_neg {v : Nat} (h : v ≤ 9223372036854775808) : wrap64 (-(v : Int) % 18446744073709551616) = -(v : Int) := by
  unfold wrap64
  simp [IntKind.wrap, IntKind.bits, IntKind.signed]
  omega
theorem ssmallR_no {n : Bool} {xs : List Nat} (h : sright n xs = false) : ssmallR n xs = (0, 2) := by unfold ssmallR; rw [h]; rfl
theorem ssmallR_eq {n : Bool} {xs : List Nat} (h : sright n xs = true) : ssmallR n xs = if -9223372036854775808 ≤ sv n xs ∧ sv n xs < 9223372036854775808 then (sv n xs, 0) else (0, 4) := by unfold ssmallR; rw [h]; rfl
theorem val_two {xs : List Nat} (ho : Ok xs) (h : xs.length ≤ 2) : val xs < 18446744073709551616 := Nat.lt_of_lt_of_le (val_lt ho) (Nat.le_trans (Nat.pow_le_pow_right (by decide) h) (by decide))
theorem val_three {xs : List Nat} (ho : Ok xs) (h : rightB xs = true) (hl : ¬ xs.length ≤ 2) : 18446744073709551616 ≤ val xs := by
  refine Nat.le_of_not_lt (fun hlt => hl ?_)
  have := dig_length_le (n := val xs) (k := 2) hlt
  rwa [right_dig ho h] at this
end Go.Proofs.YtpfhgkielakmoaaDoor

namespace Go.Proofs.YtpfhgkielakmoaaDoor
open Go.RowKit Num

theorem sdivR_no {n m : Bool} {xs ys : List Nat} (h : (sright n xs && sright m ys && decide (ys ≠ [])) = false) : sdivR n xs m ys = dbad 2 := by unfold sdivR; rw [h]; rfl
theorem sdivR_eq {n m : Bool} {xs ys : List Nat} (h1 : sright n xs = true) (h2 : sright m ys = true) (h3 : ys ≠ []) :
    sdivR n xs m ys = (if (sD (Int.fdiv (sv n xs) (sv m ys))).length ≤ 256 then dok (Int.fdiv (sv n xs) (sv m ys)) (Int.fmod (sv n xs) (sv m ys)) else dbad 3) := by
  unfold sdivR
  rw [h1, h2, decide_eq_true h3]
  rfl
theorem sN_nat (n : Bool) (k : Nat) : sN (if n then -(k : Int) else k) = (n && decide (dig k ≠ [])) := congrArg (·.1) (madeR_dig n k).symm
theorem sdiv_same {n : Bool} {xs ys : List Nat} (ho : Ok xs) (ho' : Ok ys) (h1 : sright n xs = true) (h2 : sright n ys = true) (h3 : ys ≠ []) :
    sdivR n xs n ys = (false && decide (dig (val xs / val ys) ≠ []), dig (val xs / val ys), n && decide (dig (val xs % val ys) ≠ []), dig (val xs % val ys), 0) := by
  rw [sdivR_eq h1 h2 h3]
  obtain ⟨e1, e2⟩ := fdiv_same n (val xs) (val ys) (val_pos_right ho' (sright_rightB h2) h3)
  unfold sv
  rw [e1, e2]
  have hl : (sD ((val xs / val ys : Nat) : Int)).length ≤ 256 := len_dig_sub ho (sright_rightB h1) _ (Nat.div_le_self _ _)
  rw [if_pos hl]
  unfold dok
  rw [sD_of, sN_nat]
  have := sN_nat false (val xs / val ys)
  simp only [Bool.false_eq_true, if_false] at this
  rw [this]
  rfl
theorem sdiv_zero {n : Bool} {xs ys : List Nat} (ho : Ok xs) (ho' : Ok ys) (h1 : sright n xs = true) (h2 : sright (!n) ys = true) (h3 : ys ≠ []) (h4 : dig (val xs % val ys) = []) :
    sdivR n xs (!n) ys = (true && decide (dig (val xs / val ys) ≠ []), dig (val xs / val ys), (!n) && decide (dig (val xs % val ys) ≠ []), dig (val xs % val ys), 0) := by
  rw [sdivR_eq h1 h2 h3]
  obtain ⟨e1, e2⟩ := fdiv_zero n (val xs) (val ys) (val_pos_right ho' (sright_rightB h2) h3) (dig_eq_nil.1 h4)
  unfold sv
  rw [e1, e2]
  have hs := sD_of true (val xs / val ys)
  have hn := sN_nat true (val xs / val ys)
  simp only [if_true] at hs hn
  have hl : (sD (-((val xs / val ys : Nat) : Int))).length ≤ 256 := by rw [hs]; exact len_dig_sub ho (sright_rightB h1) _ (Nat.div_le_self _ _)
  rw [if_pos hl]
  unfold dok
  rw [hs, hn, h4]
  simp [sN, sD, dig_zero]
theorem sdiv_down {n : Bool} {xs ys : List Nat} (ho' : Ok ys) (h1 : sright n xs = true) (h2 : sright (!n) ys = true) (h3 : ys ≠ []) (h4 : dig (val xs % val ys) ≠ []) :
    sdivR n xs (!n) ys = if (dig (val xs / val ys + 1)).length ≤ 256 then (true && decide (dig (val xs / val ys + 1) ≠ []), dig (val xs / val ys + 1), (!n) && decide (dig (val ys - val xs % val ys) ≠ []), dig (val ys - val xs % val ys), 0) else dbad 3 := by
  rw [sdivR_eq h1 h2 h3]
  obtain ⟨e1, e2⟩ := fdiv_down n (val xs) (val ys) (val_pos_right ho' (sright_rightB h2) h3) (fun e => h4 (dig_eq_nil.2 e))
  unfold sv
  rw [e1, e2]
  have hs := sD_of true (val xs / val ys + 1)
  have hn := sN_nat true (val xs / val ys + 1)
  simp only [if_true] at hs hn
  rw [hs]
  unfold dok
  rw [hs, hn, sN_nat, sD_of]

end Go.Proofs.YtpfhgkielakmoaaDoor

set_option linter.unusedSimpArgs false
set_option linter.unusedVariables false
namespace Go.Proofs.YtpfhgkielakmoaaDoor
open Go.RowKit Num

theorem Rd.inj {w : World} {A : Option Addr} {c d : Nat} {xs ys : List Nat} (h : Rd w A c xs) (h' : Rd w A d ys) (hl : xs.length = ys.length) : xs = ys := by
  refine List.ext_getElem hl (fun i h1 h2 => ?_)
  obtain ⟨b, o, hA, _, hc⟩ := h.at_ (by rintro rfl; simp at h1)
  obtain ⟨b', o', hA', _, hc'⟩ := h'.at_ (by rintro rfl; simp at h2)
  rw [hA] at hA'
  injection hA' with e
  injection e with e1 e2 _
  subst e1 e2
  have e3 := (hc i h1).symm.trans (hc' i h2)
  injection e3 with e3
  injection e3 with _ e3
  exact_mod_cast e3
/-- The number that a slice reads as. -/
noncomputable def numAt (w : World) (v : Value) : Nat := by
  classical exact if h : ∃ q A c, v = .slice A (dig q).length c ∧ Rd w A c (dig q) then h.choose else 0
theorem numAt_eq {w : World} {A : Option Addr} {c q : Nat} (h : Rd w A c (dig q)) : numAt w (.slice A (dig q).length c) = q := by
  have hex : ∃ q' A' c', Value.slice A (dig q).length c = .slice A' (dig q').length c' ∧ Rd w A' c' (dig q') := ⟨q, A, c, rfl, h⟩
  unfold numAt
  rw [dif_pos hex]
  obtain ⟨A', c', e, hr⟩ := hex.choose_spec
  injection e with e1 e2 e3
  subst e1 e3
  exact (dig_inj (h.inj hr e2)).symm

theorem sok_nat (k : Nat) : sok (k : Int) = (false, dig k, 0) := by
  unfold sok sN sD
  simp
theorem gcd_step {p q : Nat} : Nat.gcd p q = Nat.gcd q (p % q) := by rw [Nat.gcd_comm p q, Nat.gcd_rec q p, Nat.gcd_comm]
end Go.Proofs.YtpfhgkielakmoaaDoor

namespace Go.Proofs.YtpfhgkielakmoaaDoor
open Go.RowKit Num

theorem stextR_no {n : Bool} {xs : List Nat} (h : sright n xs = false) : stextR n xs = ([], 2) := by unfold stextR; rw [h]; rfl
theorem stextR_p {xs : List Nat} (h : sright false xs = true) : stextR false xs = (decS (val xs), 0) := by
  unfold stextR
  rw [if_pos h]
  unfold sv intS
  simp
theorem stextR_n {xs : List Nat} (ho : Ok xs) (h : sright true xs = true) : stextR true xs = (45 :: decS (val xs), 0) := by
  have := val_pos_right ho (sright_rightB h) (sright_ne h)
  unfold stextR
  rw [if_pos h]
  unfold sv intS
  simp
  omega
theorem cat45 (l : List UInt8) : ((⟨#[45]⟩ : ByteArray) ++ (⟨l.toArray⟩ : ByteArray)) = ⟨(45 :: l).toArray⟩ := by
  apply ByteArray.ext
  simp
theorem decS_len256 {xs : List Nat} (ho : Ok xs) (h : rightB xs = true) : (decS (val xs)).length ≤ 2561 := by
  unfold decS
  split
  · simp
  · have := decR_len_dig (n := val xs) (k := 256) (by rw [right_dig ho h]; exact right_len h)
    simp
    omega
end Go.Proofs.YtpfhgkielakmoaaDoor

namespace Go.Proofs.YtpfhgkielakmoaaDoor
open Go.RowKit Num

theorem sparseR_plus {l : List UInt8} (h : l.head? ≠ some 45) : sparseR l = (false, (parseR l).1, (parseR l).2) := by unfold sparseR; rw [if_neg h]
theorem sparseR_bad {l : List UInt8} {k : Int} (h : l.head? = some 45) (hk : parseR l.tail = ([], k)) (h0 : (k == 0) = false) : sparseR l = sbad k := by
  have h1 : ¬ k = 0 := by simpa using h0
  unfold sparseR
  rw [if_pos h, hk, if_neg h1]
theorem sparseR_nil {l : List UInt8} (h : l.head? = some 45) (hk : parseR l.tail = ([], 0)) : sparseR l = sbad 5 := by
  unfold sparseR
  rw [if_pos h, hk, if_pos rfl, if_pos rfl]
theorem sparseR_neg {l : List UInt8} {xs : List Nat} (h : l.head? = some 45) (hk : parseR l.tail = (xs, 0)) (hx : xs ≠ []) : sparseR l = (true, xs, 0) := by
  unfold sparseR
  rw [if_pos h, hk, if_pos rfl, if_neg hx]
end Go.Proofs.YtpfhgkielakmoaaDoor

set_option linter.unusedSimpArgs false
set_option linter.unusedVariables false
namespace Go.Proofs.YtpfhgkielakmoaaDoor
open Go.RowKit Num

def fitI (n : Bool) (xs : List Nat) : R3 := if xs.length ≤ 256 then (n, xs, 0) else sbad 3
def strip (n : Bool) (xs : List Nat) : Bool × List Nat := (n && decide (xs ≠ []), xs)
end Go.Proofs.YtpfhgkielakmoaaDoor

namespace Go.Proofs.YtpfhgkielakmoaaDoor
open Go.RowKit Num

/-- The whole number of a sign and a number. -/
def zn (n : Bool) (k : Nat) : Int := if n then -(k : Int) else k
theorem strip_dig (n : Bool) (k : Nat) : strip n (dig k) = (sN (zn n k), sD (zn n k)) := by
  unfold strip zn
  rw [sN_nat, sD_of]
theorem zn_same (n : Bool) (x y : Nat) : zn n x + zn n y = zn n (x + y) := by
  unfold zn
  cases n <;> simp <;> omega
theorem zn_less {n m : Bool} {x y : Nat} (h : (n == m) = false) (hl : x < y) : zn n x + zn m y = zn m (y - x) := by
  unfold zn
  cases n <;> cases m <;> simp at h ⊢ <;> omega
theorem zn_more {n m : Bool} {x y : Nat} (h : (n == m) = false) (hl : ¬ x < y) : zn n x + zn m y = zn n (x - y) := by
  unfold zn
  cases n <;> cases m <;> simp at h ⊢ <;> omega
theorem zn_mul (n m : Bool) (x y : Nat) : zn n x * zn m y = zn (n != m) (x * y) := by
  unfold zn
  cases n <;> cases m <;> simp [Int.mul_neg, Int.neg_mul]
end Go.Proofs.YtpfhgkielakmoaaDoor

namespace Go.Proofs.YtpfhgkielakmoaaDoor
open Go.RowKit Num

theorem fitI_sfit (z : Int) : fitI (sN z) (sD z) = sfit z := rfl
theorem sv_zn (n : Bool) (xs : List Nat) : sv n xs = zn n (val xs) := rfl
end Go.Proofs.YtpfhgkielakmoaaDoor

namespace Go.Proofs.YtpfhgkielakmoaaDoor
open Go.RowKit Num

end Go.Proofs.YtpfhgkielakmoaaDoor

namespace Go.Proofs.YtpfhgkielakmoaaDoor
open Go.RowKit Num

theorem slt_nn (xs ys : List Nat) : decide (sv true xs < sv true ys) = decide (val ys < val xs) := by
  unfold sv
  simp
theorem slt_pp (xs ys : List Nat) : decide (sv false xs < sv false ys) = decide (val xs < val ys) := by
  unfold sv
  simp
theorem slt_np {xs ys : List Nat} (ho : Ok xs) (h : sright true xs = true) : decide (sv true xs < sv false ys) = true := by
  have := val_pos_right ho (sright_rightB h) (sright_ne h)
  unfold sv
  simp
  omega
theorem slt_pn {xs ys : List Nat} : decide (sv false xs < sv true ys) = false := by
  unfold sv
  simp
  try omega
end Go.Proofs.YtpfhgkielakmoaaDoor

set_option linter.unusedSimpArgs false
set_option linter.unusedVariables false
namespace Go.Proofs.YtpfhgkielakmoaaDoor
open Go.RowKit Num

end Go.Proofs.YtpfhgkielakmoaaDoor

namespace Go.Proofs.YtpfhgkielakmoaaDoor
open Go.RowKit Num

end Go.Proofs.YtpfhgkielakmoaaDoor

set_option linter.unusedSimpArgs false
set_option linter.unusedVariables false
namespace Go.Proofs.YtpfhgkielakmoaaDoor
open Go.RowKit Num

/-- A number in memory. -/
structure El where
  n : Bool
  A : Option Addr
  xs : List Nat
  c : Nat
/-- Block g holds these numbers. -/
def Els (w : World) (g : Nat) (L : List El) : Prop := g < w.heap.size ∧ ∀ i (h : i < L.length), w.cell? ⟨g, i * 2, none⟩ = some (.bool L[i].n) ∧ w.cell? ⟨g, i * 2 + 1, none⟩ = some (.slice L[i].A L[i].xs.length L[i].c) ∧ Rd w L[i].A L[i].c L[i].xs
theorem Els.below {w w' : World} {g : Nat} {L : List El} (h : Els w g L) (hb : Below w.heap.size w w') : Els w' g L :=
  ⟨Nat.lt_of_lt_of_le h.1 hb.size, fun i hi => ⟨(hb.cell (p := ⟨g, i * 2, none⟩) h.1).trans (h.2 i hi).1, (hb.cell (p := ⟨g, i * 2 + 1, none⟩) h.1).trans (h.2 i hi).2.1, (h.2 i hi).2.2.below hb (Nat.le_refl _)⟩⟩
def fewL (L : List El) : Bool := L.all fun e => decide (e.xs.length ≤ 30)
def rightL (L : List El) : Bool := L.all fun e => sright e.n e.xs
theorem all_step {α : Type} {p : α → Bool} {L : List α} {k : Nat} (hk : k < L.length) (h : (L.take k).all p = true) (h2 : p L[k] = true) : (L.take (k + 1)).all p = true := by
  rw [List.take_succ_eq_append_getElem hk, List.all_append, h]
  simp [h2]
theorem all_end {α : Type} {p : α → Bool} {L : List α} {k : Nat} (hk : k = L.length) (h : (L.take k).all p = true) : L.all p = true := by
  subst hk
  rwa [List.take_length] at h
theorem all_no {α : Type} {p : α → Bool} {L : List α} {k : Nat} (hk : k < L.length) (h2 : p L[k] = false) : L.all p = false := by
  rw [List.all_eq_false]
  exact ⟨_, List.getElem_mem hk, by simp [h2]⟩

end Go.Proofs.YtpfhgkielakmoaaDoor

namespace Go.Proofs.YtpfhgkielakmoaaDoor
open Go.RowKit Num

theorem sD_small {z : Int} {k : Nat} (h : z.natAbs < 4294967296 ^ k) : (sD z).length ≤ k := dig_length_le h
theorem sdiv_sd {a b : Int} (ha : (sD a).length ≤ 256) (hb : (sD b).length ≤ 256) (h : b ≠ 0) (hq : (sD (Int.fdiv a b)).length ≤ 256) : sdivR (sN a) (sD a) (sN b) (sD b) = dok (Int.fdiv a b) (Int.fmod a b) := by
  rw [sdivR_eq (sright_sd ha) (sright_sd hb) (fun e => h (sD_nil.1 e)), sv_sd, sv_sd, if_pos hq]
theorem sgcd_sd {a b : Int} (ha : (sD a).length ≤ 256) (hb : (sD b).length ≤ 256) : sgcdR (sN a) (sD a) (sN b) (sD b) = sok (Nat.gcd a.natAbs b.natAbs) := by
  rw [sgcdR_eq (sright_sd ha) (sright_sd hb)]
  unfold sD
  rw [val_dig, val_dig]
theorem alive_sdiv : sdivR (sN (-7)) (sD (-7)) (sN 2) (sD 2) = (sN (-4), sD (-4), sN 1, sD 1, 0) :=
  sdiv_sd (Nat.le_trans (sD_small (k := 1) (by decide)) (by decide)) (Nat.le_trans (sD_small (k := 1) (by decide)) (by decide)) (by decide) (Nat.le_trans (sD_small (k := 1) (by decide)) (by decide))
theorem alive_sgcd : sgcdR (sN 12) (sD 12) (sN (-18)) (sD (-18)) = (sN 6, sD 6, 0) :=
  sgcd_sd (Nat.le_trans (sD_small (k := 1) (by decide)) (by decide)) (Nat.le_trans (sD_small (k := 1) (by decide)) (by decide))
theorem alive_ssmall : ssmallR true [0, 2147483648] = (-9223372036854775808, 0) := by
  rw [ssmallR_eq (sright_of (right2 (by decide)) (fun _ => by simp))]
  have e : sv true [0, 2147483648] = -9223372036854775808 := by simp [sv, val]
  rw [e, if_pos (by decide)]
end Go.Proofs.YtpfhgkielakmoaaDoor

namespace Go.Proofs.YtpfhgkielakmoaaDoor
open Go.RowKit Num

structure Mem (w0 w : World) (Ks : List (Nat × TypeId × Array Value)) (Rs : List (Option Addr × Nat × List Nat)) : Prop where
  bel : Below w0.heap.size w0 w
  ks : ∀ k ∈ Ks, Blk w k.1 k.2.1 k.2.2
  rs : ∀ r ∈ Rs, Rd w r.1 r.2.1 r.2.2
variable {w0 w w' : World} {Ks : List (Nat × TypeId × Array Value)} {Rs : List (Option Addr × Nat × List Nat)}
theorem Mem.start (w : World) : Mem w w [] [] := ⟨Below.refl _ _, fun _ h => by simp at h, fun _ h => by simp at h⟩
theorem Mem.below (h : Mem w0 w Ks Rs) (q : Below w.heap.size w w') : Mem w0 w' Ks Rs :=
  ⟨below_trans h.bel q, fun k hk => (h.ks k hk).below q (Nat.le_refl _), fun r hr => (h.rs r hr).below q (Nat.le_refl _)⟩
theorem Mem.drew (h : Mem w0 w Ks Rs) : Mem w0 w.drew Ks Rs := ⟨h.bel.trans ((Read.refl w).drew.below _), fun k hk => (h.ks k hk).drew, fun r hr => (h.rs r hr).drew⟩
theorem Mem.drewN (h : Mem w0 w Ks Rs) (n : Nat) : Mem w0 (w.drewN n) Ks Rs := ⟨h.bel.trans ((Read.refl w).drewN n |>.below _), fun k hk => (h.ks k hk).drewN n, fun r hr => (h.rs r hr).drewN n⟩
theorem Mem.alloc (h : Mem w0 w Ks Rs) (o : Obj) : Mem w0 (w.alloc o) Ks Rs := h.below (below_alloc1 w o)
theorem Mem.k (h : Mem w0 w Ks Rs) {i : Nat} {g : Nat} {t : TypeId} {cs : Array Value} (hi : Ks[i]? = some (g, t, cs)) : Blk w g t cs := h.ks _ (List.mem_of_getElem? hi)
theorem Mem.r (h : Mem w0 w Ks Rs) {i : Nat} {A : Option Addr} {c : Nat} {xs : List Nat} (hi : Rs[i]? = some (A, c, xs)) : Rd w A c xs := h.rs _ (List.mem_of_getElem? hi)
theorem Mem.addK (h : Mem w0 w Ks Rs) {g : Nat} {t : TypeId} {cs : Array Value} (hb : Blk w g t cs) : Mem w0 w ((g, t, cs) :: Ks) Rs :=
  ⟨h.bel, fun k hk => by
    rcases List.mem_cons.1 hk with rfl | hk
    · exact hb
    · exact h.ks k hk, h.rs⟩
theorem Mem.addR (h : Mem w0 w Ks Rs) {A : Option Addr} {c : Nat} {xs : List Nat} (hr : Rd w A c xs) : Mem w0 w Ks ((A, c, xs) :: Rs) :=
  ⟨h.bel, h.ks, fun r hk => by
    rcases List.mem_cons.1 hk with rfl | hk
    · exact hr
    · exact h.rs r hk⟩
theorem Mem.new (h : Mem w0 w Ks Rs) (t : TypeId) (cs : Array Value) : Mem w0 (w.alloc (.cells cs t)) ((w.heap.size, t, cs) :: Ks) Rs := (h.alloc _).addK (Blk.new w t cs)
theorem Mem.newAt (h : Mem w0 w Ks Rs) {g : Nat} (hg : g = w.heap.size) (t : TypeId) (cs : Array Value) : Mem w0 (w.alloc (.cells cs t)) ((g, t, cs) :: Ks) Rs := by subst hg; exact h.new t cs
theorem Mem.tailK {x : Nat × TypeId × Array Value} (h : Mem w0 w (x :: Ks) Rs) : Mem w0 w Ks Rs := ⟨h.bel, fun k hk => h.ks k (List.mem_cons_of_mem _ hk), h.rs⟩
/-- The head block of a number is written anew. -/
theorem Mem.put {g : Nat} {t : TypeId} {n : Bool} {A : Option Addr} {l c : Nat} (h : Mem w0 w ((g, t, #[.bool n, .slice A l c]) :: Ks) Rs) (hg : w0.heap.size ≤ g) (hne : ∀ k ∈ Ks, k.1 ≠ g) (m : Bool) (B : Option Addr) (k d : Nat) :
    Mem w0 ((w.setCell ⟨g, 0, none⟩ (.bool m)).setCell ⟨g, 1, none⟩ (.slice B k d)) ((g, t, #[.bool m, .slice B k d]) :: Ks) Rs :=
  ⟨below_put h.bel hg _ _, fun x hx => by
    rcases List.mem_cons.1 hx with rfl | hx
    · exact (h.k (i := 0) rfl).put _ _
    · exact (h.ks x (List.mem_cons_of_mem _ hx)).away (hne x hx) _ _, fun r hr => (h.rs r hr).put (h.k (i := 0) rfl).ib m _⟩
theorem Mem.lt (h : Mem w0 w Ks Rs) : ∀ k ∈ Ks, k.1 < w.heap.size := fun k hk => (h.ks k hk).lt
end Go.Proofs.YtpfhgkielakmoaaDoor

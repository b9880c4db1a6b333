/-
  The law's own helpers: alive and few of touchstonelaw02.
-/
import Derived.Test.YtlmgdhdakeekkaaNatP
namespace Go.Proofs.Ytlmgdhdakeekkaa
open Go.RowKit Num

theorem lit1 (w : World) (d : Nat) {D : Int} {g : Nat} (hD : D = (d : Int)) (hg : g = w.heap.size) (h : d < 4294967296) : Rd (w.alloc (.cells #[.int .u32 D] 78)) (some ⟨g, 0, none⟩) 1 [d] := by
  subst hD hg
  have hr : Row (w.alloc (.cells #[.int .u32 (d : Int)] 78)) w.heap.size [d] := heap_alloc_new w _
  exact hr.rd (Ok.cons h Ok.nil) (by simp)
theorem lit2 (w : World) (a b : Nat) {C D : Int} {g : Nat} (hC : C = (a : Int)) (hD : D = (b : Int)) (hg : g = w.heap.size) (h : a < 4294967296) (h' : b < 4294967296) : Rd (w.alloc (.cells #[.int .u32 C, .int .u32 D] 78)) (some ⟨g, 0, none⟩) 2 [a, b] := by
  subst hC hD hg
  exact (row_two w a b).rd (Ok.cons h (Ok.cons h' Ok.nil)) (by simp)
theorem below_alloc {w0 w : World} {B : Nat} (h : Below B w0 w) (hB : B ≤ w0.heap.size) (o : Obj) : Below B w0 (w.alloc o) := h.alloc (Nat.le_trans hB h.size) o

theorem dig_lit (xs : List Nat) (h : Ok xs) (hf : Fine xs) (n : Nat) (hn : val xs = n) : dig n = xs := by rw [← hn, dig_val h hf]
theorem ok1 {a : Nat} (h : a < 4294967296) : Ok [a] := Ok.cons h Ok.nil
theorem ok2 {a b : Nat} (h : a < 4294967296) (h' : b < 4294967296) : Ok [a, b] := Ok.cons h (ok1 h')
theorem right1 {a : Nat} (h : a ≠ 0) : rightB [a] = true := by simp [rightB, Fine, h]
theorem right2 {a b : Nat} (h : b ≠ 0) : rightB [a, b] = true := by simp [rightB, Fine, h]

theorem alive_add : addR [4294967295] [1] = ([0, 1], 0) := by
  have e : dig 4294967296 = [0, 1] := dig_lit [0, 1] (ok2 (by decide) (by decide)) (by simp [Fine]) _ (by simp [val])
  rw [addR_eq (right1 (by decide)) (right1 (by decide))]
  have e2 : val [4294967295] + val [1] = 4294967296 := by simp [val]
  rw [e2]
  unfold fitR
  rw [e]
  rfl
theorem alive_text : textR [0, 1] = ([52, 50, 57, 52, 57, 54, 55, 50, 57, 54], 0) := by
  unfold textR
  rw [if_pos (right2 (by decide))]
  have e2 : val [0, 1] = 4294967296 := by simp [val]
  rw [e2]
  simp [decS, decR_pos, decR_zero]
theorem alive_div : divR [7] [2] = ([3], [1], 0) := by
  rw [divR_eq (right1 (by decide)) (right1 (by decide)) (by simp)]
  have e1 : val [7] / val [2] = 3 := by simp [val]
  have e2 : val [7] % val [2] = 1 := by simp [val]
  rw [e1, e2, dig_lit [3] (ok1 (by decide)) (by simp [Fine]) 3 (by simp [val]), dig_lit [1] (ok1 (by decide)) (by simp [Fine]) 1 (by simp [val])]
theorem alive_right : rightB [1, 0] = false := by simp [rightB, Fine]

theorem add_use {A B : Option Addr} {c d n m : Nat} {xs ys : List Nat} {w : World} (ha : Rd w A c xs) (hb : Rd w B d ys) (hn : xs.length = n) (hm : ys.length = m) :
   Calls Try.prog 49 #[.slice A n c, .slice B m d] w fun e w' => RetSE w w' e (addR xs ys) := by
  subst hn hm
  exact add_any A B c d xs ys w ha hb
theorem divmod_use {A B : Option Addr} {c d n m : Nat} {xs ys : List Nat} {w : World} (ha : Rd w A c xs) (hb : Rd w B d ys) (hn : xs.length = n) (hm : ys.length = m) :
   Calls Try.prog 46 #[.slice A n c, .slice B m d] w fun e w' => RetSSE w w' e (divR xs ys) := by
  subst hn hm
  exact divmod_any A B c d xs ys w ha hb
theorem text_use {A : Option Addr} {c n : Nat} {xs : List Nat} {w : World} (ha : Rd w A c xs) (hn : xs.length = n) :
   Calls Try.prog 52 #[.slice A n c] w fun e w' => RetTE w w' e (textR xs) := by
  subst hn
  exact text_any A c xs w ha
theorem right_use {A : Option Addr} {c n : Nat} {xs : List Nat} {w : World} (ha : Rd w A c xs) (hn : xs.length = n) :
   Calls Try.prog 53 #[.slice A n c] w fun e w' => e = .returned (.bool (rightB xs)) ∧ w = w' := by
  subst hn
  exact right_any A c xs w ha
theorem same_use {A B : Option Addr} {c d n m : Nat} {xs ys : List Nat} {w : World} (ha : Rd w A c xs) (hb : Rd w B d ys) (hn : xs.length = n) (hm : ys.length = m) (hs : n ≤ 1000000) (ht : m ≤ 1000000) :
   Calls Try.prog 48 #[.slice A n c, .slice B m d] w fun e w' => e = .returned (.bool (decide (xs = ys))) ∧ Read w w' := by
  subst hn hm
  exact same_any A B c d xs ys w ha hb hs ht



end Go.Proofs.Ytlmgdhdakeekkaa

/-
  The law's own helpers: alive and few of touchstonelaw02.
-/
import Derived.Test.YtllecomieolamaaNatP
namespace Go.Proofs.Ytllecomieolamaa
open Go.RowKit Num

theorem lit1 (w : World) (d : Nat) {D : Int} {g : Nat} (hD : D = (d : Int)) (hg : g = w.heap.size) (h : d < 4294967296) : Rd (w.alloc (.cells #[.int .u32 D] 121)) (some ⟨g, 0, none⟩) 1 [d] := by
  subst hD hg
  have hr : Row (w.alloc (.cells #[.int .u32 (d : Int)] 121)) w.heap.size [d] := heap_alloc_new w _
  exact hr.rd (Ok.cons h Ok.nil) (by simp)
theorem lit2 (w : World) (a b : Nat) {C D : Int} {g : Nat} (hC : C = (a : Int)) (hD : D = (b : Int)) (hg : g = w.heap.size) (h : a < 4294967296) (h' : b < 4294967296) : Rd (w.alloc (.cells #[.int .u32 C, .int .u32 D] 121)) (some ⟨g, 0, none⟩) 2 [a, b] := by
  subst hC hD hg
  exact (row_two w a b).rd (Ok.cons h (Ok.cons h' Ok.nil)) (by simp)
theorem below_alloc {w0 w : World} {B : Nat} (h : Below B w0 w) (hB : B ≤ w0.heap.size) (o : Obj) : Below B w0 (w.alloc o) := h.alloc (Nat.le_trans hB h.size) o

theorem dig_lit (xs : List Nat) (h : Ok xs) (hf : Fine xs) (n : Nat) (hn : val xs = n) : dig n = xs := by rw [← hn, dig_val h hf]
theorem ok1 {a : Nat} (h : a < 4294967296) : Ok [a] := Ok.cons h Ok.nil
theorem ok2 {a b : Nat} (h : a < 4294967296) (h' : b < 4294967296) : Ok [a, b] := Ok.cons h (ok1 h')
theorem right1 {a : Nat} (h : a ≠ 0) : rightB [a] = true := by simp [rightB, Fine, h]
theorem right2 {a b : Nat} (h : b ≠ 0) : rightB [a, b] = true := by simp [rightB, Fine, h]

theorem alive_add : addR [4294967295] [1] = ([0, 1], 0) := by
  have e : dig 4294967296 = [0, 1] := dig_lit [0, 1] (ok2 (by decide) (by decide)) (by simp [Fine]) _ (by simp [val])
  rw [addR_eq (right1 (by decide)) (right1 (by decide))]
  have e2 : val [4294967295] + val [1] = 4294967296 := by simp [val]
  rw [e2]
  unfold fitR
  rw [e]
  rfl
theorem alive_text : textR [0, 1] = ([52, 50, 57, 52, 57, 54, 55, 50, 57, 54], 0) := by
  unfold textR
  rw [if_pos (right2 (by decide))]
  have e2 : val [0, 1] = 4294967296 := by simp [val]
  rw [e2]
  simp [decS, decR_pos, decR_zero]
theorem alive_div : divR [7] [2] = ([3], [1], 0) := by
  rw [divR_eq (right1 (by decide)) (right1 (by decide)) (by simp)]
  have e1 : val [7] / val [2] = 3 := by simp [val]
  have e2 : val [7] % val [2] = 1 := by simp [val]
  rw [e1, e2, dig_lit [3] (ok1 (by decide)) (by simp [Fine]) 3 (by simp [val]), dig_lit [1] (ok1 (by decide)) (by simp [Fine]) 1 (by simp [val])]
theorem alive_right : rightB [1, 0] = false := by simp [rightB, Fine]

theorem add_use {A B : Option Addr} {c d n m : Nat} {xs ys : List Nat} {w : World} (ha : Rd w A c xs) (hb : Rd w B d ys) (hn : xs.length = n) (hm : ys.length = m) :
   Calls Try.prog 31 #[.slice A n c, .slice B m d] w fun e w' => RetSE w w' e (addR xs ys) := by
  subst hn hm
  exact add_any A B c d xs ys w ha hb
theorem divmod_use {A B : Option Addr} {c d n m : Nat} {xs ys : List Nat} {w : World} (ha : Rd w A c xs) (hb : Rd w B d ys) (hn : xs.length = n) (hm : ys.length = m) :
   Calls Try.prog 28 #[.slice A n c, .slice B m d] w fun e w' => RetSSE w w' e (divR xs ys) := by
  subst hn hm
  exact divmod_any A B c d xs ys w ha hb
theorem text_use {A : Option Addr} {c n : Nat} {xs : List Nat} {w : World} (ha : Rd w A c xs) (hn : xs.length = n) :
   Calls Try.prog 46 #[.slice A n c] w fun e w' => RetTE w w' e (textR xs) := by
  subst hn
  exact text_any A c xs w ha
theorem right_use {A : Option Addr} {c n : Nat} {xs : List Nat} {w : World} (ha : Rd w A c xs) (hn : xs.length = n) :
   Calls Try.prog 37 #[.slice A n c] w fun e w' => e = .returned (.bool (rightB xs)) ∧ w = w' := by
  subst hn
  exact right_any A c xs w ha
theorem same_use {A B : Option Addr} {c d n m : Nat} {xs ys : List Nat} {w : World} (ha : Rd w A c xs) (hb : Rd w B d ys) (hn : xs.length = n) (hm : ys.length = m) (hs : n ≤ 1000000) (ht : m ≤ 1000000) :
   Calls Try.prog 30 #[.slice A n c, .slice B m d] w fun e w' => e = .returned (.bool (decide (xs = ys))) ∧ Read w w' := by
  subst hn hm
  exact same_any A B c d xs ys w ha hb hs ht

set_option maxRecDepth 100000 in
set_option maxHeartbeats 1000000 in
theorem alive_any (w : World) : Calls Try.prog 26 #[] w fun e w' => e = .returned (.bool true) ∧ Below w.heap.size w w' := by
  go_enter Try.func26, Try.ntmps26
  go_wp2_with fail
  refine (add_use ((lit1 w 4294967295 rfl rfl (by decide)).alloc _) (lit1 (w.alloc _) 1 rfl (by simp) (by decide)) rfl rfl).mono ?_
  rintro e w1 ⟨⟨A1, c1, rfl, hr1⟩, hb1⟩
  rw [alive_add] at hr1 ⊢
  have hbel1 : Below w.heap.size w w1 := (below_alloc (below_alloc (Below.refl _ w) (Nat.le_refl _) _) (Nat.le_refl _) _).trans (hb1.mono (by simp; omega))
  clear hb1
  go_wp2_with fail
  refine (text_use (lit2 w1 0 1 rfl rfl rfl (by decide) (by decide)) rfl).mono ?_
  rintro e w2 ⟨rfl, hb2⟩
  rw [alive_text]
  have hr2 := (hr1.alloc (.cells #[.int .u32 0, .int .u32 1] 121)).below hb2 (Nat.le_refl _)
  have hbel2 : Below w.heap.size w w2 := (below_alloc hbel1 (Nat.le_refl _) _).trans (hb2.mono (by have := hbel1.size; simp; omega))
  clear hb2 hr1 hbel1
  go_wp2_with fail
  refine (divmod_use ((lit1 w2 7 rfl rfl (by decide)).alloc _) (lit1 (w2.alloc _) 2 rfl (by simp) (by decide)) rfl rfl).mono ?_
  rintro e w3 ⟨⟨A3, c3, A4, c4, rfl, hr3, hr4⟩, hb3⟩
  rw [alive_div] at hr3 hr4 ⊢
  have hr5 := ((hr2.alloc (.cells #[.int .u32 7] 121)).alloc (.cells #[.int .u32 2] 121)).below hb3 (Nat.le_refl _)
  have hbel3 : Below w.heap.size w w3 := (below_alloc (below_alloc hbel2 (Nat.le_refl _) _) (Nat.le_refl _) _).trans (hb3.mono (by have := hbel2.size; simp; omega))
  clear hb3 hr2 hbel2
  go_wp2_with fail
  refine (same_use (hr5.alloc _) (lit2 w3 0 1 rfl rfl rfl (by decide) (by decide)) rfl rfl (by decide) (by decide)).mono ?_
  rintro e w4 ⟨rfl, n4, rfl⟩
  go_wp2_with fail
  refine (same_use (((hr3.alloc _).drewN _).alloc _) (lit1 ((w3.alloc _).drewN n4) 3 rfl (by simp) (by decide)) rfl rfl (by decide) (by decide)).mono ?_
  rintro e w5 ⟨rfl, n5, rfl⟩
  go_wp2_with fail
  refine (same_use (((((hr4.alloc _).drewN _).alloc _).drewN _).alloc _) (lit1 ((((w3.alloc _).drewN n4).alloc _).drewN n5) 1 rfl (by simp) (by decide)) rfl rfl (by decide) (by decide)).mono ?_
  rintro e w6 ⟨rfl, n6, rfl⟩
  go_wp2_with fail
  refine (right_use ((((((hr5.alloc _).drewN _).alloc _).drewN _).alloc _).drewN _) rfl).mono ?_
  rintro e w7 ⟨rfl, rfl⟩
  rw [right2 (by decide)]
  go_wp2_with fail
  refine (right_use (lit2 ((((((w3.alloc _).drewN n4).alloc _).drewN n5).alloc _).drewN n6) 1 0 rfl rfl (by simp) (by decide) (by decide)) rfl).mono ?_
  rintro e w8 ⟨rfl, rfl⟩
  rw [alive_right]
  go_wp2
  go_ret
  refine ⟨rfl, ?_⟩
  have b1 := below_alloc hbel3 (Nat.le_refl _) (.cells #[.int .u32 0, .int .u32 1] 121)
  have b2 := below_alloc (b1.trans ((Read.refl _).drewN n4 |>.below _)) (Nat.le_refl _) (.cells #[.int .u32 3] 121)
  have b3 := below_alloc (b2.trans ((Read.refl _).drewN n5 |>.below _)) (Nat.le_refl _) (.cells #[.int .u32 1] 121)
  exact below_alloc (b3.trans ((Read.refl _).drewN n6 |>.below _)) (Nat.le_refl _) _

theorem few_eq (n m : Nat) : decide (n ≤ 40 ∧ m ≤ 40) = (decide (n ≤ 40) && decide (m ≤ 40)) := by
  by_cases h : n ≤ 40 <;> by_cases h' : m ≤ 40 <;> simp [h, h']
set_option maxRecDepth 100000 in
theorem few_any (A B : Option Addr) (c d n m : Nat) (w : World) (hn : n ≤ 9223372036854775807) (hm : m ≤ 9223372036854775807) :
    Calls Try.prog 27 #[.slice A n c, .slice B m d] w fun e w' => e = .returned (.bool (decide (n ≤ 40 ∧ m ≤ 40))) ∧ w = w' := by
  by_cases h : n ≤ 40
  · by_cases h' : m ≤ 40
    · have h1 : decide ((n : Int) ≤ 40) = true := decide_eq_true (by omega)
      have h2 : decide ((m : Int) ≤ 40) = true := decide_eq_true (by omega)
      have HE : Hid (decide (n ≤ 40 ∧ m ≤ 40) = true) := decide_eq_true ⟨h, h'⟩
      clear h h' hn hm
      go_enter Try.func27, Try.ntmps27
      go_wp2
      go_ret
      rw [HE.out]
      exact ⟨rfl, rfl⟩
    · have h1 : decide ((n : Int) ≤ 40) = true := decide_eq_true (by omega)
      have h2 : decide ((m : Int) ≤ 40) = false := decide_eq_false (by omega)
      have HE : Hid (decide (n ≤ 40 ∧ m ≤ 40) = false) := decide_eq_false (fun q => h' q.2)
      clear h h' hn hm
      go_enter Try.func27, Try.ntmps27
      go_wp2
      go_ret
      rw [HE.out]
      exact ⟨rfl, rfl⟩
  · have h1 : decide ((n : Int) ≤ 40) = false := decide_eq_false (by omega)
    have HE : Hid (decide (n ≤ 40 ∧ m ≤ 40) = false) := decide_eq_false (fun q => h q.1)
    clear h hn hm
    go_enter Try.func27, Try.ntmps27
    go_wp2
    go_ret
    rw [HE.out]
    exact ⟨rfl, rfl⟩

end Go.Proofs.Ytllecomieolamaa

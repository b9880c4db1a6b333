/-
  ShowBack.
-/
import Derived.Test.YtpfhgkielakmoaaGreatDoorVl
import Derived.Test.YtpfhgkielakmoaaGreatDoorWc
import Derived.Test.YtpfhgkielakmoaaGreatDoorVt
import Derived.Test.YtpfhgkielakmoaaGreatDoorPt
set_option linter.unusedSimpArgs false
set_option linter.unusedVariables false
namespace Go.Proofs.YtpfhgkielakmoaaGreatDoor
open Go.RowKit Num Go.Joins

theorem row_all4 {ty te : TypeId} {F : Nat → Prop} {w : World} {v : Value} {l : List It} (h : (layI ty te).row.P F w v l) : (layI ty te).row.P (fun _ => True) w v l := ((layI ty te).row).mono (fun _ _ => trivial) h
theorem rngE_flat {y : Ex} (h : RngE y) : RngE y.flat := ⟨h.1, fun z hz => by
  obtain ⟨u, hu, rfl⟩ := List.mem_map.1 hz
  exact h.2 u hu⟩
theorem rngI_flat {x : It} (h : RngI x) : RngI x.flat := ⟨h.1, h.2.1, fun z hz => by
  obtain ⟨u, hu, rfl⟩ := List.mem_map.1 hz
  exact rngE_flat (h.2.2 u hu)⟩
theorem lowE_unflat {y : Ex} (h : LowE y.flat) : y.flat = y := by
  obtain ⟨k, n, s, l⟩ := y
  show Ex.mk k n s (l.map Ex0.flat) = _
  congr 1
  have h2 : ∀ z ∈ l, Ex0.flat z = z := fun z hz => by
    have := h.2 z.flat (List.mem_map_of_mem hz)
    obtain ⟨a, b, c, m⟩ := z
    have hm : (if m = 0 then 0 else 1) = 0 := this
    have hm0 : m = 0 := by
      by_cases h0 : m = 0
      · exact h0
      · rw [if_neg h0] at hm
        cases hm
    subst hm0
    rfl
  rw [List.map_congr_left h2, List.map_id']
theorem lowI_unflat {x : It} (h : LowI x.flat) : x.flat = x := by
  obtain ⟨k, nm, b, d, z, o, v, a⟩ := x
  show It.mk k nm b d z o (v.map Ex.flat) a = _
  congr 1
  rw [List.map_congr_left fun y hy => lowE_unflat (h.2.2 y.flat (List.mem_map_of_mem hy)), List.map_id']
theorem lows_unflat {l : List It} (h : ∀ x ∈ l.map It.flat, LowI x) : l.map It.flat = l := by
  rw [List.map_congr_left fun y hy => lowI_unflat (h y.flat (List.mem_map_of_mem hy)), List.map_id']
theorem showL_cases (l : List It) : showL l = (textS l, 0) ∨ showL l = ([], 2) ∨ showL l = ([], 3) := by
  unfold showL
  split
  · exact Or.inr (Or.inr rfl)
  · split
    · split
      · exact Or.inl rfl
      · exact Or.inr (Or.inr rfl)
    · exact Or.inr (Or.inl rfl)
theorem showL_len {l : List It} (h : (showL l).2 = 0) : (textS l).length ≤ 8192 := fits_len (showL_ok h).2.2.1
theorem few_lens {l : List It} (h : ∀ x ∈ l, FewP x) : ∀ x ∈ l, x.vals.length ≤ 10000 ∧ ∀ y ∈ x.vals, y.l.length ≤ 10000 := fun x hx => ⟨by have := (h x hx).2.1; omega, fun y hy => by have := ((h x hx).2.2.2 y hy).2.1; omega⟩
/-- All, and then show's text of it. -/
theorem all_show {F : Nat → Prop} (A : Option Addr) (c : Nat) (l : List It) (w0 w : World) (hE : Env w) (h0 : (layI 28 50).row.P F w0 (.slice A l.length c) l) (hw0 : Below w0.heap.size w0 w) (hr : ∀ x ∈ l, RngI x) (hn : l.length ≤ 1000) (hf : ∀ x ∈ l, FewP x) :
    Calls Tryz.prog 10 #[.slice A l.length c] w fun e w' => (∃ B d, e = .returned (.slice B (l.map It.flat).length d) ∧ (layIat w0 F 47 102).own w.heap.size w' (.slice B (l.map It.flat).length d) (l.map It.flat) ∧
      Calls Tryz.prog 9 #[.slice B (l.map It.flat).length d] w' fun e2 w2 => e2 = .returned (TEV (showL (l.map It.flat))) ∧ Below w'.heap.size w' w2) ∧ Below w.heap.size w w' := by
  refine (all_items A c l w0 w h0 hw0 (by omega) (few_lens hf)).mono ?_
  rintro e w1 ⟨⟨v, rfl, ho⟩, q⟩
  obtain ⟨B, d, hv⟩ := Lay.own_len ho
  subst hv
  refine ⟨⟨B, d, rfl, ho, ?_⟩, q⟩
  refine vshow_any B d (l.map It.flat) w1 (hE.below q) (row_now (Lay.own_row ho) (hw0.trans (q.mono hw0.size))) (fun x hx => ?_) (fun x hx => ?_)
  · obtain ⟨y, hy, rfl⟩ := List.mem_map.1 hx
    exact rngI_flat (hr y hy)
  · obtain ⟨y, hy, rfl⟩ := List.mem_map.1 hx
    have := (hf y hy).1
    show y.name.length ≤ 10000
    omega
set_option maxRecDepth 100000 in
set_option maxHeartbeats 8000000 in
theorem showBack_use (w : World) (hE : Env w) (A : Option Addr) (l : List It) (c : Nat) (ha : (layI 28 50).row.P (fun _ => True) w (.slice A l.length c) l) (hr : ∀ x ∈ l, RngI x) :
    Calls Tryz.prog 4 #[.slice A l.length c] w fun e w' => e = .returned (.bool true) ∧ Below w.heap.size w w' := by
  have HR := Lib.hid hr
  have HA0 := Lib.hid ha
  clear hr ha
  go_enter Tryz.func4, Tryz.ntmps4
  go_wp2_with fail
  refine (alive7_any w hE).mono ?_
  rintro e w1 ⟨rfl, q1⟩
  go_wp2_with fail
  go_loopg [13] l.length (fun k a wr => ∃ (j : Nat), k = l.length - j ∧ j ≤ l.length ∧ j ≤ 100 ∧ a = .int .i64 (j : Nat) ∧ (∀ y ∈ l.take j, FewP y) ∧ Below w.heap.size w wr)
  case atStart => exact ⟨0, rfl, Nat.zero_le _, Nat.zero_le _, rfl, (by intro y hy; cases hy), q1⟩
  case round =>
    obtain ⟨j, hk, hj, hj1, rfl, hall, hbl⟩ := hrel
    by_cases hlt : j < l.length
    · have d1 : decide ((j : Int) < (l.length : Int)) = true := decide_eq_true (by omega)
      by_cases h100 : 100 ≤ j
      · have d2 : decide ((100 : Int) ≤ (j : Int)) = true := decide_eq_true (by omega)
        clear hall
        go_wp2_with fail
        go_ret
        exact ⟨rfl, hbl⟩
      · have d2 : decide ((100 : Int) ≤ (j : Int)) = false := decide_eq_false (by omega)
        obtain ⟨b, o, hA, hb1, hc⟩ := row_it (Dt.below _ HA0.out hbl (Nat.le_refl _)) (lt_ne hlt)
        obtain ⟨f0, f1, f2, f4, f5, f7, ⟨A3, n3, f3, -⟩, A6, n6, f6, hxv⟩ := hc j hlt
        subst hA
        have HA := Lib.hid hall
        have HT := Lib.hid (take_snoc hlt)
        have HFW := Lib.hid (few_any l[j] A3 n3 A6 n6 wr hxv)
        clear hc hall hxv
        generalize l[j] = x at *
        have HX : Hid (FewP x → ∀ y ∈ l.take (j + 1), FewP y) := by
          intro hx
          rw [HT.out]
          intro y hy
          rcases List.mem_append.1 hy with hy | hy
          · exact HA.out y hy
          · rw [List.mem_singleton.1 hy]
            exact hx
        obtain ⟨xk, xn, xb, xd, xz, xo, xv, xa⟩ := x
        dsimp only at f0 f1 f2 f3 f4 f5 f6 f7 HFW
        go_wp2_with fail
        refine (HFW.out).mono ?_
        rintro e w2 ⟨⟨r, rfl, hrf⟩, q2⟩
        have hbl2 := below_trans hbl q2
        clear f0 f1 f2 f3 f4 f5 f6 f7 HFW
        cases r with
        | false =>
          go_wp2_with fail
          go_ret
          exact ⟨rfl, hbl2⟩
        | true =>
          have HX2 := Lib.hid (HX.out (hrf rfl))
          clear hrf
          go_wp2_with fail
          go_roundg (l.length - (j + 1))
          case measure => omega
          case rel => exact ⟨j + 1, rfl, by omega, by omega, by simp, HX2.out, hbl2⟩
    · have d1 : decide ((j : Int) < (l.length : Int)) = false := decide_eq_false (by omega)
      have e1 : l.take j = l := List.take_of_length_le (by omega)
      rw [e1] at hall
      have hE1 := hE.below hbl
      have hl100 : l.length ≤ 100 := by omega
      go_wp2_with fail
      refine (all_show A c l w _ hE1 HA0.out hbl HR.out (by omega) hall).mono ?_
      rintro e w2 ⟨⟨B, d, rfl, ho2, hsh⟩, q2⟩
      have hb2 := below_trans hbl q2
      have HSH := Lib.hid hsh
      have hrf : ∀ x ∈ l.map It.flat, RngI x := fun x hx => by
        obtain ⟨y, hy, rfl⟩ := List.mem_map.1 hx
        exact rngI_flat (HR.out y hy)
      have hc3 := showL_cases (l.map It.flat)
      have HB := Lib.hid (fun h => show_back (l := l.map It.flat) hrf h)
      have HLN := Lib.hid (fun h => showL_len (l := l.map It.flat) h)
      have HFL := Lib.hid hall
      clear hsh ho2 hrf hall
      have HLF := Lib.hid (fun h => lows_unflat (l := l) h)
      generalize hL : l.map It.flat = L at *
      have HLL := Lib.hid hL
      clear hL
      go_wp2_with fail
      refine (HSH.out).mono ?_
      rintro e w3 ⟨rfl, q3⟩
      have hb3 := below_trans hb2 q3
      clear HSH
      rcases hc3 with hz | hz | hz
      · rw [hz]
        have h2 : (showL L).2 = 0 := by rw [hz]
        obtain ⟨hp, hlow⟩ := HB.out h2
        have hln := HLN.out h2
        rw [hz] at hp
        dsimp only at hp
        have HUF := Lib.hid (HLF.out hlow)
        have HLW := Lib.hid hlow
        clear hz h2 hlow HB HLN HLF
        dsimp only [TEV]
        have hp2 : textP (⟨(textS L).toArray⟩ : ByteArray).data.toList = (L, 0, 0) := hp
        have hsz : (⟨(textS L).toArray⟩ : ByteArray).size ≤ 1000000 := Nat.le_trans hln (by decide)
        generalize (⟨(textS L).toArray⟩ : ByteArray) = S at *
        have HP := Lib.hid hp2
        clear hp2 hp hln
        go_wp2_with fail
        refine (ptext_any S w3 (hE.below hb3).err hsz).mono ?_
        rintro e w4 ⟨C, f, rfl, hC, q4⟩
        have hq := HP.out
        generalize textP S.data.toList = rc at *
        subst hq
        dsimp only at *
        have hC4 := row_all4 hC
        have hb4 := below_trans hb3 q4
        have HC4 := Lib.hid hC4
        have hLl : L.length ≤ 100 := by rw [← HLL.out, List.length_map]; exact hl100
        clear hC hC4 HP
        go_wp2_with fail
        refine (ours_items C f L w4 w4 HC4.out (Below.refl _ _) (by omega) (LowI.few HLW.out)).mono ?_
        rintro e w5 ⟨⟨v5, rfl, o5⟩, q5⟩
        rw [flat_all HLW.out] at o5
        obtain ⟨A5, c5, hv5⟩ := Lay.own_len o5
        subst hv5
        have r5 := row_now (Lay.own_row o5) q5
        have hb5 := below_trans hb4 q5
        have HR5 := Lib.hid r5
        clear o5 r5
        go_wp2_with fail
        refine (rsameI_any A5 A c5 c L l w5 HR5.out (Dt.below _ HA0.out hb5 (Nat.le_refl _)) (by omega) (LowI.few3 HLW.out)).mono ?_
        rintro e w6 ⟨rfl, q6⟩
        have hitB : itsB L l = true := by
          have h3 : L = l := HUF.out
          subst h3
          exact itsB_refl HLW.out
        rw [hitB]
        clear hitB
        go_wp2_with fail
        go_ret
        exact ⟨rfl, below_trans hb5 q6⟩
      · rw [hz]
        clear hz HB HLN HLF
        dsimp only [TEV]
        go_wp2_with fail
        go_ret
        exact ⟨rfl, hb3⟩
      · rw [hz]
        clear hz HB HLN HLF
        dsimp only [TEV]
        go_wp2_with fail
        go_ret
        exact ⟨rfl, hb3⟩
end Go.Proofs.YtpfhgkielakmoaaGreatDoor

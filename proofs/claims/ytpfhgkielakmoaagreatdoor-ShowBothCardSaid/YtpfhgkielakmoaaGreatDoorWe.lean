/-
  ShowOnce.
-/
import Derived.Test.YtpfhgkielakmoaaGreatDoorWd
set_option linter.unusedSimpArgs false
set_option linter.unusedVariables false
namespace Go.Proofs.YtpfhgkielakmoaaGreatDoor
open Go.RowKit Num Go.Joins

theorem nameB_len {s : List UInt8} (h : nameB s = true) : s.length ≤ 8176 := (nameB_iff.1 h).2
theorem item_name {x : It} (h : (itemS x).2 = true) : x.name.length ≤ 8176 := by
  have hg : ∀ {k : Int} {p : TX}, p.2 = (x.dom.isEmpty && (x.size == 0 && !x.out) && (!x.bool && (x.vals.isEmpty && nameB x.name))) → p.2 = true → x.name.length ≤ 8176 := fun {k p} h1 h2 => by
    rw [h1] at h2
    simp only [Bool.and_eq_true] at h2
    exact nameB_len h2.2.2.2
  unfold itemS at h
  split at h
  · unfold parS at h
    simp only [Bool.and_eq_true] at h
    exact nameB_len h.2.2.2.2
  · split at h
    · unfold varS at h
      simp only [Bool.and_eq_true] at h
      exact nameB_len h.2.2.2.2.2
    · split at h
      · unfold arrS at h
        simp only [Bool.and_eq_true] at h
        exact nameB_len h.2.2.2.2
      · split at h
        · unfold conS at h
          simp only [Bool.and_eq_true] at h
          exact nameB_len h.2.2.2
        · split at h
          · unfold goalS at h
            split at h
            · simp only [Bool.and_eq_true, beq_iff_eq] at h
              rw [h.2.2.2]
              exact Nat.zero_le _
            · split at h
              · simp only [Bool.and_eq_true] at h
                exact nameB_len h.2.2.2
              · split at h
                · simp only [Bool.and_eq_true] at h
                  exact nameB_len h.2.2.2
                · cases h
          · cases h
set_option maxRecDepth 100000 in
set_option maxHeartbeats 8000000 in
theorem showOnce_use (w : World) (hE : Env w) (s : ByteArray) (hs : s.size ≤ maxLen) :
    Calls Tryz.prog 5 #[.string s] w fun e w' => e = .returned (.bool true) ∧ Below w.heap.size w w' := by
  unfold maxLen at hs
  by_cases hbig : 2000 < s.size
  · have d1 : decide ((2000 : Int) < (s.size : Int)) = true := decide_eq_true (by omega)
    go_enter Tryz.func5, Tryz.ntmps5
    go_wp2_with fail
    refine (alive7_any w hE).mono ?_
    rintro e w1 ⟨rfl, q1⟩
    go_wp2_with fail
    go_ret
    exact ⟨rfl, q1⟩
  have d1 : decide ((2000 : Int) < (s.size : Int)) = false := decide_eq_false (by omega)
  have hlow := textP_low s.data.toList
  have hps := @parse_shows s.data.toList (by have : s.data.toList.length = s.size := by simp
                                             omega)
  have hsz : s.size ≤ 1000000 := by omega
  have HLOW := Lib.hid hlow
  have HPS := Lib.hid hps
  have hlen := textP_len s.data.toList
  clear hlow hps hbig hs
  go_enter Tryz.func5, Tryz.ntmps5
  go_wp2_with fail
  refine (alive7_any w hE).mono ?_
  rintro e w1 ⟨rfl, q1⟩
  go_wp2_with fail
  refine (ptext_any s w1 (hE.below q1).err hsz).mono ?_
  rintro e w2 ⟨A, c, rfl, hA, q2⟩
  have q12 := below_trans q1 q2
  have HA := Lib.hid (row_all4 hA)
  clear hA q1 q2 d1
  generalize textP s.data.toList = r at *
  obtain ⟨l, at_, er⟩ := r
  dsimp only at *
  by_cases he : er = 0
  · subst he
    obtain ⟨hr, hsh⟩ := HPS.out rfl
    have hok := showL_ok (l := l) (by rw [hsh])
    have hback := show_back hr (by rw [hsh])
    rw [hsh] at hback
    dsimp only at hback
    have hln := showL_len (l := l) (by rw [hsh])
    have HSH := Lib.hid (fun (w' : World) (q : Below w.heap.size w w') (A' : Option Addr) (c' : Nat) (h : (layI 47 102).row.P (fun _ => True) w' (.slice A' l.length c') l) => vshow_any A' c' l w' (hE.below q) h hr (fun x hx => Nat.le_trans (item_name (hok.2.1 x hx).1) (by decide)))
    rw [hsh] at HSH
    dsimp only [TEV] at HSH
    have hp2 : textP (⟨(textS l).toArray⟩ : ByteArray).data.toList = (l, 0, 0) := hback.1
    have hsz2 : (⟨(textS l).toArray⟩ : ByteArray).size ≤ 1000000 := Nat.le_trans hln (by decide)
    clear hsh hback hln hok hr HPS
    generalize (⟨(textS l).toArray⟩ : ByteArray) = S at *
    have HP := Lib.hid hp2
    clear hp2
    go_wp2_with fail
    refine (HSH.out _ q12 A c HA.out).mono ?_
    rintro e w3 ⟨rfl, q3⟩
    have b3 := below_trans q12 q3
    go_wp2_with fail
    refine (ptext_any S w3 (hE.below b3).err hsz2).mono ?_
    rintro e w4 ⟨C, f, rfl, hC, q4⟩
    have hq := HP.out
    generalize textP S.data.toList = rc at *
    subst hq
    dsimp only at *
    have b4 := below_trans b3 q4
    have HC := Lib.hid (row_all4 hC)
    have HA4 := Lib.hid (Dt.below _ HA.out (below_trans q3 q4) (Nat.le_refl _))
    clear hC HP HA q3 q4 b3 q12
    go_wp2_with fail
    refine (HSH.out _ b4 C f HC.out).mono ?_
    rintro e w5 ⟨rfl, q5⟩
    have b5 := below_trans b4 q5
    have HA5 := Lib.hid (Dt.below _ HA4.out q5 (Nat.le_refl _))
    have HC5 := Lib.hid (Dt.below _ HC.out q5 (Nat.le_refl _))
    clear HA4 HC HSH q5 b4
    go_wp2_with fail
    refine (ours_items A c l w5 w5 HA5.out (Below.refl _ _) (by omega) (LowI.few HLOW.out)).mono ?_
    rintro e w6 ⟨⟨v6, rfl, o6⟩, q6⟩
    rw [flat_all HLOW.out] at o6
    obtain ⟨A6, c6, hv6⟩ := Lay.own_len o6
    subst hv6
    have r6 := row_now (Lay.own_row o6) q6
    have HR6 := Lib.hid r6
    have b6 := below_trans b5 q6
    clear o6 r6
    go_wp2_with fail
    refine (ours_items C f l w5 w6 HC5.out q6 (by omega) (LowI.few HLOW.out)).mono ?_
    rintro e w7 ⟨⟨v7, rfl, o7⟩, q7⟩
    rw [flat_all HLOW.out] at o7
    obtain ⟨A7, c7, hv7⟩ := Lay.own_len o7
    subst hv7
    have r7 := row_now (Lay.own_row o7) (below_trans q6 q7)
    have HR7 := Lib.hid r7
    have HR67 := Lib.hid (Dt.below _ HR6.out q7 (Nat.le_refl _))
    have b7 := below_trans b6 q7
    have hitB := itsB_refl HLOW.out
    clear o7 r7
    go_wp2_with fail
    refine (rsameI_any A6 A7 c6 c7 l l w7 HR67.out HR7.out (by omega) (LowI.few3 HLOW.out)).mono ?_
    rintro e w8 ⟨rfl, q8⟩
    rw [hitB]
    clear hitB
    go_wp2_with fail
    go_ret
    exact ⟨rfl, below_trans b7 q8⟩
  · have he1 : (er != 0) = true := ne_bool he
    clear HPS he
    go_wp2_with fail
    go_ret
    exact ⟨rfl, q12⟩
end Go.Proofs.YtpfhgkielakmoaaGreatDoor

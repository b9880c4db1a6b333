/-
  The contract of the document's Split.
-/
import Derived.Test.YtjjdpbfbpaobhaaDoorTi
set_option linter.unusedSimpArgs false
set_option linter.unusedVariables false
namespace Go.Proofs.YtjjdpbfbpaobhaaDoor
open Go.RowKit Num

theorem takeWhile_all {α : Type} (p : α → Bool) (l : List α) : ∀ c ∈ l.takeWhile p, p c = true := by
  induction l with
  | nil => simp
  | cons x r ih =>
    rw [List.takeWhile_cons]
    split
    · intro c hc
      rcases List.mem_cons.1 hc with rfl | hc
      · assumption
      · exact ih c hc
    · simp
theorem take_takeWhile {α : Type} (p : α → Bool) (l : List α) : l.take (l.takeWhile p).length = l.takeWhile p := by
  induction l with
  | nil => rfl
  | cons x r ih =>
    rw [List.takeWhile_cons]
    split
    · simpa using ih
    · rfl
/-- A number's text: digits, behind a '-' or not. -/
theorem num_text {l : List UInt8} {m : Nat} (h : wordL l = (2, m)) : ∃ (neg : Bool) (ds : List UInt8), l.take m = (if neg then 45 :: ds else ds) ∧ ds ≠ [] ∧ ∀ c ∈ ds, isDigit c = true := by
  cases l with
  | nil => cases h
  | cons c r =>
    unfold wordL at h
    simp only at h
    split at h
    · cases h
    · split at h
      · rename_i e1 e2
        injection h with h1 h2
        subst h2
        refine ⟨false, c :: r.takeWhile isDigit, ?_, by simp, ?_⟩
        · rw [Nat.add_comm, List.take_succ_cons, take_takeWhile]
          rfl
        · intro d hd
          rcases List.mem_cons.1 hd with rfl | hd
          · exact e2
          · exact takeWhile_all _ _ _ hd
      · split at h
        · rename_i e1 e2 e3
          injection h with h1 h2
          subst h2
          refine ⟨true, r.takeWhile isDigit, ?_, ?_, takeWhile_all _ _⟩
          · rw [Nat.add_comm, List.take_succ_cons, take_takeWhile, e3.1]
            rfl
          · cases r with
            | nil => simp at e3
            | cons d r =>
              have : isDigit d = true := by simpa using e3.2
              rw [List.takeWhile_cons, if_pos this]
              simp
        · split at h
          · cases h
          · split at h <;> cases h
theorem rvalue_any {t : ByteArray} {l : List UInt8} {m : Nat} (w : World) (h : wordL l = (2, m)) (ht : t.data.toList = l.take m) (hs : t.size ≤ 8192) :
    Calls Tryd.prog 21 #[.string t] w fun e w' => e = .returned (.tuple #[.int .i64 (vR t.data.toList).1, .bool (vR t.data.toList).2]) ∧ Below w.heap.size w w' := by
  obtain ⟨neg, ds, h1, h2, h3⟩ := num_text h
  rw [h1] at ht
  cases neg with
  | false =>
    rw [ht]
    exact rvalue_pos w ht h2 h3 hs
  | true =>
    rw [ht]
    exact rvalue_neg w ht h2 h3 hs
theorem vR_ok {l : List UInt8} {v : Int} (h : Lib.parseIntB 64 l = .ok v) : vR l = (v, true) := by unfold vR; rw [h]
theorem vR_no {l : List UInt8} (h : ∀ v, Lib.parseIntB 64 l ≠ .ok v) : vR l = (0, false) := by
  unfold vR
  split
  · rename_i v e
    exact absurd e (h v)
  · rfl
set_option maxRecDepth 100000 in
set_option maxHeartbeats 8000000 in
theorem rsplit_any (s : ByteArray) (w : World) : Calls Tryd.prog 9 #[.string s] w fun e w' => RetTok 34 w w' e (splitR s.data.toList) := by
  by_cases hbig : 8192 < s.size
  · have hR : Hid (splitR s.data.toList = ([], 0, 3)) := by
      show _ = _
      unfold splitR
      rw [if_pos (by simpa using hbig)]
    go_enter Tryd.func9, Tryd.ntmps9
    go_wp2
    rw [hR.out]
    exact bodyPost_ret (v := .tuple #[.slice none 0 0, .int .i64 0, .int .i64 3]) (by simp [results, Tryd.results9, go_sem]) rfl ⟨⟨_, rfl, OwnT.nil _ _ _⟩, Below.refl _ _⟩
  have hs : s.size ≤ 8192 := by omega
  have hR : Hid (splitR s.data.toList = splitB s.size (blankL s.data.toList) []) := by
    show _ = _
    unfold splitR
    rw [if_neg (by simpa using hbig)]
    congr 1
  rw [hR.out]
  generalize hRR : splitB s.size (blankL s.data.toList) [] = R
  have HR0 := Lib.hid hRR
  clear hRR
  have d1 : decide ((8192 : Int) < (s.size : Int)) = false := decide_eq_false (by omega)
  clear hbig hR
  go_enter Tryd.func9, Tryd.ntmps9
  go_wp2_with fail
  refine (rblank_any (i := 0) _ hs (Nat.zero_le _)).mono ?_
  rintro e w2 ⟨rfl, q, _, hi, hd⟩
  have hb : Below w.heap.size w w2 := q.below _
  rw [List.drop_zero] at hd
  have hRR : splitB s.size (s.data.toList.drop (bl s 0)) [] = R := by rw [hd]; exact HR0.out
  have HR := Lib.hid hRR
  clear hd hRR HR0 q
  generalize bl s 0 = i at *
  go_wp2_with fail
  go_loopg [5, 6] (s.size - i) (fun k v a wr => ∃ acc j, k = s.size - j ∧ j ≤ s.size ∧ acc.length ≤ j ∧ a = .int .i64 (j : Nat) ∧ Hid (splitB s.size (s.data.toList.drop j) acc = R) ∧ OwnT wr w.heap.size 34 v acc ∧ Below w.heap.size w wr)
  case atStart => exact ⟨[], i, rfl, hi, Nat.zero_le _, by simp, HR, OwnT.nil _ _ _, hb⟩
  case round =>
    obtain ⟨acc, j, hk, hj, hal, rfl, hT, ho, hb'⟩ := hrel
    clear hb HR hi
    obtain ⟨A, c, rfl⟩ := ho.len
    by_cases hlt : j < s.size
    case neg =>
      have hR := hT.out
      rw [splitB_end hlt] at hR
      have HR := Lib.hid hR
      clear hR hT
      have d2 : decide ((j : Int) < (s.size : Int)) = false := decide_eq_false (by omega)
      go_wp2
      rw [← HR.out]
      exact bodyPost_ret (v := .tuple #[.slice A acc.length c, .int .i64 0, .int .i64 0]) (by simp [results, Tryd.results9, go_sem]) rfl ⟨⟨_, rfl, ho⟩, hb'⟩
    have d2 : decide ((j : Int) < (s.size : Int)) = true := decide_eq_true (by omega)
    by_cases hfull : acc.length = 4096
    · have hR := hT.out
      rw [splitB_full hlt hfull] at hR
      have HR := Lib.hid hR
      have d3 : ((acc.length : Int) == 4096) = true := by rw [hfull]; rfl
      clear hR hT
      go_wp2
      rw [← HR.out]
      exact bodyPost_ret (v := .tuple #[.slice none 0 0, .int .i64 j, .int .i64 3]) (by simp [results, Tryd.results9, go_sem]) rfl ⟨⟨_, rfl, OwnT.nil _ _ _⟩, hb'⟩
    have d3 : ((acc.length : Int) == 4096) = false := by simp; omega
    go_wp2_with fail
    refine (rword_any _ hs hlt).mono ?_
    generalize hwl : wordL (s.data.toList.drop j) = km
    obtain ⟨k, m⟩ := km
    rintro e w3 ⟨rfl, q3⟩
    have ho3 := ho.below (q3.below _)
    have hb3 := hb'.trans (q3.below _)
    have hm : k ≠ 0 → 1 ≤ m := fun h => by
      have h1 := wordL_pos (l := s.data.toList.drop j) (by rw [hwl]; exact h)
      rw [hwl] at h1
      exact h1.1
    have hm2 : j + m ≤ s.size := by
      have h1 := wordL_le (s.data.toList.drop j)
      rw [hwl, drop_len] at h1
      omega
    have HW := Lib.hid hwl
    have hal4 : acc.length ≠ 4096 := hfull
    clear ho hb' q3 hwl
    by_cases hk0 : k = 0
    · subst hk0
      have hR := hT.out
      rw [splitB_none hlt hal4 (by rw [HW.out])] at hR
      have HR := Lib.hid hR
      clear hR hT
      go_wp2
      rw [← HR.out]
      exact bodyPost_ret (v := .tuple #[.slice none 0 0, .int .i64 j, .int .i64 5]) (by simp [results, Tryd.results9, go_sem]) rfl ⟨⟨_, rfl, OwnT.nil _ _ _⟩, hb3⟩
    have hm1 := hm hk0
    have b0 : (k == 0) = false := by simpa using hk0
    clear hm
    by_cases hk2 : k = 2
    · subst hk2
      have hsz := ext_size hm2 hs
      have kb := Blk.new w3 34 #[.int .i64 2, .string (s.extract j (j + m)), .int .i64 0, .int .i64 j]
      have ho4 := ho3.alloc (.cells #[.int .i64 2, .string (s.extract j (j + m)), .int .i64 0, .int .i64 j] 34)
      have hb4 := below_trans hb3 (below_alloc1 w3 (.cells #[.int .i64 2, .string (s.extract j (j + m)), .int .i64 0, .int .i64 j] 34))
      by_cases hp : ∃ v, Lib.parseIntB 64 (s.extract j (j + m)).data.toList = .ok v
      · obtain ⟨v, hp⟩ := hp
        have hT2 : splitB s.size (blankL (s.data.toList.drop (j + m))) (acc ++ [⟨2, (s.extract j (j + m)).data.toList, v, j⟩]) = R := by rw [← splitB_num hlt hal4 HW.out hp]; exact hT.out
        have HT := Lib.hid hT2
        have HN := Lib.hid (vR_ok hp)
        clear hT2 hT hp
        go_wp2_with fail
        refine (rvalue_any _ HW.out (take_ext s j m) hsz).mono ?_
        rintro e w5 ⟨rfl, q⟩
        rw [HN.out]
        have kb5 := Blk.below kb q (Nat.le_refl _)
        have ho5 := ho4.below q
        have hb5 := hb4.trans (q.mono hb4.size)
        have hbw : w.heap.size ≤ w3.heap.size := hb3.size
        have hnb : (Value.slice A acc.length c).ownBlock ≠ some w3.heap.size := fun e => by have := (World.ownsRow.lt ho3 _ e).2; omega
        generalize w3.heap.size = b at *
        clear kb ho4 hb4 q ho3 hb3
        obtain ⟨f1, f2, f3, f4⟩ := kb5.four
        have z2 := kb5.frozen 2
        have kb6 := kb5.set_ 2 (.int .i64 v)
        have ho6 := ho5.kept (grown_set w5 ⟨b, 2, none⟩ (.int .i64 v)) (.inr hnb)
        have hb6 := grown_below hb5 (grown_set w5 ⟨b, 2, none⟩ (.int .i64 v)) (by show w.heap.size ≤ b; omega)
        have hbs : w.heap.size ≤ (w5.setCell ⟨b, 2, none⟩ (.int .i64 v)).heap.size := hb6.size
        go_wp2_with (at_builtin; refine wp_appR _ _ (w5.setCell ⟨b, 2, none⟩ (.int .i64 v)) w.heap.size _ acc ⟨2, (s.extract j (j + m)).data.toList, v, j⟩ (by simp) (ext_eta _) rfl ho6 hbs (by omega) rfl rfl rfl rfl ?_; intro v' w7 ho7 hg7 hb7)
        have hbl7 : Below w.heap.size w w7 := hb6.trans hb7
        refine (rblank_any _ hs hm2).mono ?_
        rintro e w8 ⟨rfl, q8, hi1, hi2, hd8⟩
        have ho8 := ho7.below (q8.below _)
        have hb8 := hbl7.trans (q8.below _)
        have hT3 := HT.out
        rw [← hd8] at hT3
        have HT3 := Lib.hid hT3
        clear hT3 hd8 HT
        go_wp2_with fail
        go_roundg (s.size - bl s (j + m))
        case measure => omega
        case rel => exact ⟨_, _, rfl, hi2, by simp; omega, by simp; omega, HT3, ho8, hb8⟩
      · have hpn : ∀ v, Lib.parseIntB 64 (s.extract j (j + m)).data.toList ≠ .ok v := fun v h => hp ⟨v, h⟩
        have hR := hT.out
        rw [splitB_bad hlt hal4 HW.out hpn] at hR
        have HR := Lib.hid hR
        have HN := Lib.hid (vR_no hpn)
        clear hR hT hp hpn
        go_wp2_with fail
        refine (rvalue_any _ HW.out (take_ext s j m) hsz).mono ?_
        rintro e w5 ⟨rfl, q⟩
        rw [HN.out]
        go_wp2
        rw [← HR.out]
        exact bodyPost_ret (v := .tuple #[.slice none 0 0, .int .i64 j, .int .i64 4]) (by simp [results, Tryd.results9, go_sem]) rfl ⟨⟨_, rfl, OwnT.nil _ _ _⟩, hb4.trans (q.mono hb4.size)⟩
    · have hT2 : splitB s.size (blankL (s.data.toList.drop (j + m))) (acc ++ [⟨k, (s.extract j (j + m)).data.toList, 0, j⟩]) = R := by rw [← splitB_word hlt hal4 HW.out hk0 hk2]; exact hT.out
      have HT := Lib.hid hT2
      have b2 : (k == 2) = false := by simpa using hk2
      have kb := Blk.new w3 34 #[.int .i64 k, .string (s.extract j (j + m)), .int .i64 0, .int .i64 j]
      have ho4 := ho3.alloc (.cells #[.int .i64 k, .string (s.extract j (j + m)), .int .i64 0, .int .i64 j] 34)
      have hb4 := below_trans hb3 (below_alloc1 w3 (.cells #[.int .i64 k, .string (s.extract j (j + m)), .int .i64 0, .int .i64 j] 34))
      have hbs : w.heap.size ≤ (w3.alloc (.cells #[.int .i64 k, .string (s.extract j (j + m)), .int .i64 0, .int .i64 j] 34)).heap.size := hb4.size
      clear hT2 hT
      obtain ⟨f1, f2, f3, f4⟩ := kb.four
      go_wp2_with (at_builtin; refine wp_appR _ _ (w3.alloc (.cells #[.int .i64 k, .string (s.extract j (j + m)), .int .i64 0, .int .i64 j] 34)) w.heap.size _ acc ⟨k, (s.extract j (j + m)).data.toList, 0, j⟩ (by first | rfl | simp) (ext_eta _) rfl ho4 hbs (by omega) rfl rfl rfl rfl ?_; intro v' w7 ho7 hg7 hb7)
      have hbl7 : Below w.heap.size w w7 := hb4.trans hb7
      refine (rblank_any _ hs hm2).mono ?_
      rintro e w8 ⟨rfl, q8, hi1, hi2, hd8⟩
      have ho8 := ho7.below (q8.below _)
      have hb8 := hbl7.trans (q8.below _)
      have hT3 := HT.out
      rw [← hd8] at hT3
      have HT3 := Lib.hid hT3
      clear hT3 hd8 HT
      go_wp2_with fail
      go_roundg (s.size - bl s (j + m))
      case measure => omega
      case rel => exact ⟨_, _, rfl, hi2, by simp; omega, by simp; omega, HT3, ho8, hb8⟩
end Go.Proofs.YtjjdpbfbpaobhaaDoor

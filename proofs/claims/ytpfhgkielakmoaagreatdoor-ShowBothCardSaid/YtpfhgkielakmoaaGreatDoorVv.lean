/-
  show.array: its contract.
-/
import Derived.Test.YtpfhgkielakmoaaGreatDoorVq
import Derived.Test.YtpfhgkielakmoaaGreatDoorTl
set_option linter.unusedSimpArgs false
set_option linter.unusedVariables false
namespace Go.Proofs.YtpfhgkielakmoaaGreatDoor
open Go.RowKit Num Go.Joins

theorem arrS_eq (k : Int) (nm : List UInt8) (b : Bool) (dm : List (Int × Int)) (sz : Int) (o : Bool) (vs : List Ex) (ak : Int) : arrS ⟨k, nm, b, dm, sz, o, vs, ak⟩ =
    (wArray ++ [32] ++ ([91, 49, 46, 46] ++ Lib.itoa sz ++ [93]) ++ [32, 111, 102, 32] ++ (if k = 4 then [118, 97, 114, 32] else []) ++ truthS b ++ [58, 32] ++ nm ++ (if o then [32, 58, 58, 32] ++ wOutArray ++ [40] ++ ([91, 49, 46, 46] ++ Lib.itoa sz ++ [93]) ++ [41] else []) ++ [32, 61, 32, 91] ++ (joinS (vs.map plainS)).1 ++ [93, 59],
    (joinS (vs.map plainS)).2 && (dm.length == 0 && (ak == 0 && ((!o || k == 4) && nameB nm)))) := by
  unfold arrS sizeS
  have h2 : dm.isEmpty = (dm.length == 0) := by cases dm <;> rfl
  dsimp only
  rw [h2]
set_option maxRecDepth 100000 in
set_option maxHeartbeats 40000000 in
theorem varr_vo {F : Nat → Prop} (nm : List UInt8) (b : Bool) (dm : List (Int × Int)) (n3 : Nat) (A3 : Option Addr) (sz : Int) (vs : List Ex) (n6 : Nat) (A6 : Option Addr) (ak : Int) (w : World) (hE : Env w) (hnm : nm.length ≤ 10000) (hsz : I64 sz) (hr : ∀ y ∈ vs, RngE y)
    (ha : (layE 102).row.P F w (.slice A6 vs.length n6) vs) :
    Calls Tryz.prog 45 #[.agg #[.int .i64 4, .string ⟨nm.toArray⟩, .bool b, .slice A3 dm.length n3, .int .i64 sz, .bool true, .slice A6 vs.length n6, .int .i64 ak]] w fun e w' => e = .returned (TXV (arrS ⟨4, nm, b, dm, sz, true, vs, ak⟩)) ∧ Below w.heap.size w w' := by
  have hF := arrS_eq 4 nm b dm sz true vs ak
  have hJl := joinS_len (g := plainS) (l := vs) (fun y hy h => plain0_len (hr y hy).1 h)
  have HJ := Lib.hid (fun (w' : World) (q : Below w.heap.size w w') => vjoin_ex (f := 86) (F := F) plainS (fun _ _ => rfl) A6 n6 vs w' (Dt.below _ ha q (Nat.le_refl _)) (hE.below q) (fun y hy h => Nat.le_trans (plain0_len (hr y hy).1 h) (by decide)) (fun y hy A' c' w' hE' _ => vplain_any y.k y.n y.s y.l.length c' A' (hr y hy).1 w' hE'))
  generalize joinS (vs.map plainS) = J at *
  obtain ⟨t, jb⟩ := J
  dsimp only [TXV] at hF hJl HJ
  have HT := Lib.hid (vtruth_any b)
  have HN := Lib.hid (vname_any ⟨nm.toArray⟩)
  have HU := Lib.hid (fun (w' : World) (hE' : Env w') => vnum_any sz hsz w' hE')
  have hX : ∀ B, (Value.tuple #[.string ((⟨#[97, 114, 114, 97, 121, 32]⟩ : ByteArray) ++ (⟨#[91, 49, 46, 46]⟩ ++ ⟨(Lib.itoa sz).toArray⟩ ++ ⟨#[93]⟩) ++ ⟨#[32, 111, 102, 32]⟩ ++ ⟨#[118, 97, 114, 32]⟩ ++ (⟨(truthS b).toArray⟩ ++ ⟨#[58, 32]⟩ ++ ⟨nm.toArray⟩) ++ (⟨#[32, 58, 58, 32, 111, 117, 116, 112, 117, 116, 95, 97, 114, 114, 97, 121, 40]⟩ ++ (⟨#[91, 49, 46, 46]⟩ ++ ⟨(Lib.itoa sz).toArray⟩ ++ ⟨#[93]⟩) ++ ⟨#[41]⟩) ++ ⟨#[32, 61, 32, 91]⟩ ++ ⟨t.toArray⟩ ++ ⟨#[93, 59]⟩), .bool B]) = TXV (wArray ++ [32] ++ ([91, 49, 46, 46] ++ Lib.itoa sz ++ [93]) ++ [32, 111, 102, 32] ++ [118, 97, 114, 32] ++ truthS b ++ [58, 32] ++ nm ++ ([32, 58, 58, 32] ++ wOutArray ++ [40] ++ ([91, 49, 46, 46] ++ Lib.itoa sz ++ [93]) ++ [41]) ++ [32, 61, 32, 91] ++ t ++ [93, 59], B) := fun B => by
    have h : ((⟨#[97, 114, 114, 97, 121, 32]⟩ : ByteArray) ++ (⟨#[91, 49, 46, 46]⟩ ++ ⟨(Lib.itoa sz).toArray⟩ ++ ⟨#[93]⟩) ++ ⟨#[32, 111, 102, 32]⟩ ++ ⟨#[118, 97, 114, 32]⟩ ++ (⟨(truthS b).toArray⟩ ++ ⟨#[58, 32]⟩ ++ ⟨nm.toArray⟩) ++ (⟨#[32, 58, 58, 32, 111, 117, 116, 112, 117, 116, 95, 97, 114, 114, 97, 121, 40]⟩ ++ (⟨#[91, 49, 46, 46]⟩ ++ ⟨(Lib.itoa sz).toArray⟩ ++ ⟨#[93]⟩) ++ ⟨#[41]⟩) ++ ⟨#[32, 61, 32, 91]⟩ ++ ⟨t.toArray⟩ ++ ⟨#[93, 59]⟩) = ⟨(wArray ++ [32] ++ ([91, 49, 46, 46] ++ Lib.itoa sz ++ [93]) ++ [32, 111, 102, 32] ++ [118, 97, 114, 32] ++ truthS b ++ [58, 32] ++ nm ++ ([32, 58, 58, 32] ++ wOutArray ++ [40] ++ ([91, 49, 46, 46] ++ Lib.itoa sz ++ [93]) ++ [41]) ++ [32, 61, 32, 91] ++ t ++ [93, 59]).toArray⟩ := by
      apply ByteArray.ext
      simp [wOutArray, wArray]
    unfold TXV
    rw [h]
  have hUl : (⟨(Lib.itoa sz).toArray⟩ : ByteArray).size ≤ 21 := itoa_len hsz
  have hTl : (⟨(truthS b).toArray⟩ : ByteArray).size ≤ 10 := by cases b <;> decide
  have hNl := name_len hnm
  have hVl : (⟨t.toArray⟩ : ByteArray).size ≤ 600000 := hJl
  have hnb : nameB (⟨nm.toArray⟩ : ByteArray).data.toList = nameB nm := rfl
  rw [hnb] at HN
  generalize (⟨(Lib.itoa sz).toArray⟩ : ByteArray) = NS at *
  generalize (⟨(truthS b).toArray⟩ : ByteArray) = T at *
  generalize (⟨nm.toArray⟩ : ByteArray) = N at *
  generalize (⟨t.toArray⟩ : ByteArray) = V at *
  have hz0 : ¬ 9223372036854775807 < 4 + NS.size := by omega
  have hz1 : ¬ 9223372036854775807 < 4 + NS.size + 1 := by omega
  have hz2 : ¬ 9223372036854775807 < 6 + (4 + NS.size + 1) := by omega
  have hz3 : ¬ 9223372036854775807 < 6 + (4 + NS.size + 1) + 4 := by omega
  have hz4 : ¬ 9223372036854775807 < 6 + (4 + NS.size + 1) + 4 + 4 := by omega
  have ht0 : Hid (¬ 9223372036854775807 < T.size + 2) := by show ¬ _; omega
  have ht1 : Hid (¬ 9223372036854775807 < T.size + 2 + N.size) := by show ¬ _; omega
  have ht2 : Hid (¬ 9223372036854775807 < 6 + (4 + NS.size + 1) + 4 + 4 + (T.size + 2 + N.size)) := by show ¬ _; omega
  have HY0 : Hid (¬ 9223372036854775807 < 17 + (4 + NS.size + 1)) := by show ¬ _; omega
  have HY1 : Hid (¬ 9223372036854775807 < 17 + (4 + NS.size + 1) + 1) := by show ¬ _; omega
  have HY2 : Hid (¬ 9223372036854775807 < 6 + (4 + NS.size + 1) + 4 + 4 + (T.size + 2 + N.size) + (17 + (4 + NS.size + 1) + 1)) := by show ¬ _; omega
  have HY3 : Hid (¬ 9223372036854775807 < 6 + (4 + NS.size + 1) + 4 + 4 + (T.size + 2 + N.size) + (17 + (4 + NS.size + 1) + 1) + 4) := by show ¬ _; omega
  have HY4 : Hid (¬ 9223372036854775807 < 6 + (4 + NS.size + 1) + 4 + 4 + (T.size + 2 + N.size) + (17 + (4 + NS.size + 1) + 1) + 4 + V.size) := by show ¬ _; omega
  have HY5 : Hid (¬ 9223372036854775807 < 6 + (4 + NS.size + 1) + 4 + 4 + (T.size + 2 + N.size) + (17 + (4 + NS.size + 1) + 1) + 4 + V.size + 2) := by show ¬ _; omega
  clear hUl hTl hNl hVl hJl hnm hnb hr ha hsz
  have HF := Lib.hid hF
  have HX := Lib.hid hX
  clear hF hX
  generalize nameB nm = nb at *
  generalize dm.length = d at *
  have q0 := below_alloc1 w (.cells #[.int .i64 4, .string N, .bool b, .slice A3 d n3, .int .i64 sz, .bool true, .slice A6 vs.length n6, .int .i64 ak] 47)
  go_enter Tryz.func45, Tryz.ntmps45
  go_wp2_with fail
  refine (HU.out _ (hE.below q0)).mono ?_
  rintro e w1 ⟨rfl, q1⟩
  have M : Mem w w1 [(w.heap.size, 47, #[.int .i64 4, .string N, .bool b, .slice A3 d n3, .int .i64 sz, .bool true, .slice A6 vs.length n6, .int .i64 ak])] [] := ((Mem.start w).new 47 _).below q1
  clear q0 q1
  obtain ⟨m1, m2, m3, m4, m5, m6, m7, m8⟩ := Blk.eight (M.k (i := 0) rfl)
  go_upto_region 5 with fail
  clear m1 m2 m3 m4 m5 m6 m7 m8
  refine region_gen0 (n := 10) (frame := ?frame1) (fun L s w' => (L 0 = true → s 0 = .string ((⟨#[97, 114, 114, 97, 121, 32]⟩ : ByteArray) ++ (⟨#[91, 49, 46, 46]⟩ ++ NS ++ ⟨#[93]⟩) ++ ⟨#[32, 111, 102, 32]⟩ ++ ⟨#[118, 97, 114, 32]⟩)) ∧ (L 1 = true → s 1 = .pointer (some ⟨w.heap.size, 2, none⟩)) ∧ (L 2 = true → s 2 = .bool b) ∧ (L 3 = true → s 3 = .string T) ∧ (L 4 = true → s 4 = .string (T ++ ⟨#[58, 32]⟩)) ∧ (L 5 = true → s 5 = .pointer (some ⟨w.heap.size, 1, none⟩)) ∧ (L 6 = true → s 6 = .string N) ∧ (L 7 = true → s 7 = .string (T ++ ⟨#[58, 32]⟩ ++ N)) ∧ (L 8 = true → s 8 = .string (((⟨#[97, 114, 114, 97, 121, 32]⟩ : ByteArray) ++ (⟨#[91, 49, 46, 46]⟩ ++ NS ++ ⟨#[93]⟩) ++ ⟨#[32, 111, 102, 32]⟩ ++ ⟨#[118, 97, 114, 32]⟩) ++ (T ++ ⟨#[58, 32]⟩ ++ N))) ∧ (L 9 = true → s 9 = .string (((⟨#[97, 114, 114, 97, 121, 32]⟩ : ByteArray) ++ (⟨#[91, 49, 46, 46]⟩ ++ NS ++ ⟨#[93]⟩) ++ ⟨#[32, 111, 102, 32]⟩ ++ ⟨#[118, 97, 114, 32]⟩) ++ (T ++ ⟨#[58, 32]⟩ ++ N))) ∧ (L 9 = false → s 9 = .string ((⟨#[97, 114, 114, 97, 121, 32]⟩ : ByteArray) ++ (⟨#[91, 49, 46, 46]⟩ ++ NS ++ ⟨#[93]⟩) ++ ⟨#[32, 111, 102, 32]⟩ ++ ⟨#[118, 97, 114, 32]⟩)) ∧ Mem w w' [(w.heap.size, 47, #[.int .i64 4, .string N, .bool b, .slice A3 d n3, .int .i64 sz, .bool true, .slice A6 vs.length n6, .int .i64 ak])] []) (by kernel_rfl) (by kernel_rfl) (by kernel_rfl) rfl ?_ ?_ ?_ ?_
  case refine_1 => exact ⟨fun h => no_f h, fun h => no_f h, fun h => no_f h, fun h => no_f h, fun h => no_f h, fun h => no_f h, fun h => no_f h, fun h => no_f h, fun h => no_f h, fun h => no_f h, fun _ => rfl, (M).drew⟩
  case refine_2 =>
    intro s
    simp only [fr, Act.put, List.append_eq, List.cons_append, List.nil_append, List.setIfInBounds_toArray, List.set_cons_zero, List.set_cons_succ, Nat.reduceAdd]
    rfl
  case refine_3 =>
    refine Steps.cons 0 (j := 1) rfl ?_ (Steps.cons 1 (j := 2) rfl ?_ (Steps.cons 2 (j := 3) rfl ?_ (Steps.cons 3 (j := 4) rfl ?_ (Steps.cons 4 (j := 5) rfl ?_ (Steps.cons 5 (j := 6) rfl ?_ (Steps.cons 6 (j := 7) rfl ?_ (Steps.cons 7 (j := 8) rfl ?_ (Steps.cons 8 (j := 9) rfl ?_ (Steps.cons 9 (j := 10) rfl ?_ Steps.nil)))))))))
    · intro L s w9 hN hU hi hC hS K hK
      dsimp only at hK ⊢
      simp only [Act.put, List.setIfInBounds_toArray, List.set_cons_zero, List.set_cons_succ] at hK
      obtain ⟨h_0, h_1, h_2, h_3, h_4, h_5, h_6, h_7, h_8, h_9, h_1009, hM⟩ := hS
      refine ite_of rfl ?_
      have e_z := h_1009 (Shut.no hC 9 8 rfl rfl (hU.out 8 _ rfl rfl))
      simp only [e_z] at hK ⊢
      go_simp
      refine hK.out _ _ ?_
      exact ⟨fun _ => rfl, h_1, h_2, h_3, h_4, h_5, h_6, h_7, h_8, h_9, h_1009, hM⟩
    · intro L s w9 hN hU hi hC hS K hK
      dsimp only at hK ⊢
      simp only [Act.put, List.setIfInBounds_toArray, List.set_cons_zero, List.set_cons_succ] at hK
      obtain ⟨h_0, h_1, h_2, h_3, h_4, h_5, h_6, h_7, h_8, h_9, h_1009, hM⟩ := hS
      refine ite_of rfl ?_
      go_simp
      refine hK.out _ _ ?_
      exact ⟨h_0, fun _ => rfl, h_2, h_3, h_4, h_5, h_6, h_7, h_8, h_9, h_1009, hM⟩
    · intro L s w9 hN hU hi hC hS K hK
      dsimp only at hK ⊢
      simp only [Act.put, List.setIfInBounds_toArray, List.set_cons_zero, List.set_cons_succ] at hK
      obtain ⟨h_0, h_1, h_2, h_3, h_4, h_5, h_6, h_7, h_8, h_9, h_1009, hM⟩ := hS
      refine ite_of rfl ?_
      have e_1 : s 1 = .pointer (some ⟨w.heap.size, 2, none⟩) := h_1 (hN.out 1 rfl)
      simp only [e_1] at hK ⊢
      obtain ⟨u1, u2, u3, u4, u5, u6, u7, u8⟩ := Blk.eight (hM.k (i := 0) rfl)
      go_simp
      refine hK.out _ _ ?_
      exact ⟨h_0, h_1, fun _ => rfl, h_3, h_4, h_5, h_6, h_7, h_8, h_9, h_1009, hM⟩
    · intro L s w9 hN hU hi hC hS K hK
      dsimp only at hK ⊢
      simp only [Act.put, List.setIfInBounds_toArray, List.set_cons_zero, List.set_cons_succ] at hK
      obtain ⟨h_0, h_1, h_2, h_3, h_4, h_5, h_6, h_7, h_8, h_9, h_1009, hM⟩ := hS
      refine ite_of rfl ?_
      have e_2 : s 2 = .bool b := h_2 (hN.out 2 rfl)
      simp only [e_2] at hK ⊢
      go_simp
      go_at_call 87
      refine (HT.out _).mono ?_
      rintro e9 w10 ⟨rfl, q⟩
      refine hK.out _ _ ?_
      exact ⟨h_0, h_1, h_2, fun _ => rfl, h_4, h_5, h_6, h_7, h_8, h_9, h_1009, hM.below q⟩
    · intro L s w9 hN hU hi hC hS K hK
      dsimp only at hK ⊢
      simp only [Act.put, List.setIfInBounds_toArray, List.set_cons_zero, List.set_cons_succ] at hK
      obtain ⟨h_0, h_1, h_2, h_3, h_4, h_5, h_6, h_7, h_8, h_9, h_1009, hM⟩ := hS
      refine ite_of rfl ?_
      have e_3 : s 3 = .string T := h_3 (hN.out 3 rfl)
      simp only [e_3] at hK ⊢
      have z1 := ht0.out
      go_simp
      refine hK.out _ _ ?_
      exact ⟨h_0, h_1, h_2, h_3, fun _ => rfl, h_5, h_6, h_7, h_8, h_9, h_1009, hM⟩
    · intro L s w9 hN hU hi hC hS K hK
      dsimp only at hK ⊢
      simp only [Act.put, List.setIfInBounds_toArray, List.set_cons_zero, List.set_cons_succ] at hK
      obtain ⟨h_0, h_1, h_2, h_3, h_4, h_5, h_6, h_7, h_8, h_9, h_1009, hM⟩ := hS
      refine ite_of rfl ?_
      go_simp
      refine hK.out _ _ ?_
      exact ⟨h_0, h_1, h_2, h_3, h_4, fun _ => rfl, h_6, h_7, h_8, h_9, h_1009, hM⟩
    · intro L s w9 hN hU hi hC hS K hK
      dsimp only at hK ⊢
      simp only [Act.put, List.setIfInBounds_toArray, List.set_cons_zero, List.set_cons_succ] at hK
      obtain ⟨h_0, h_1, h_2, h_3, h_4, h_5, h_6, h_7, h_8, h_9, h_1009, hM⟩ := hS
      refine ite_of rfl ?_
      have e_5 : s 5 = .pointer (some ⟨w.heap.size, 1, none⟩) := h_5 (hN.out 5 rfl)
      simp only [e_5] at hK ⊢
      obtain ⟨u1, u2, u3, u4, u5, u6, u7, u8⟩ := Blk.eight (hM.k (i := 0) rfl)
      go_simp
      refine hK.out _ _ ?_
      exact ⟨h_0, h_1, h_2, h_3, h_4, h_5, fun _ => rfl, h_7, h_8, h_9, h_1009, hM⟩
    · intro L s w9 hN hU hi hC hS K hK
      dsimp only at hK ⊢
      simp only [Act.put, List.setIfInBounds_toArray, List.set_cons_zero, List.set_cons_succ] at hK
      obtain ⟨h_0, h_1, h_2, h_3, h_4, h_5, h_6, h_7, h_8, h_9, h_1009, hM⟩ := hS
      refine ite_of rfl ?_
      have e_4 : s 4 = .string (T ++ ⟨#[58, 32]⟩) := h_4 (hN.out 4 rfl)
      simp only [e_4] at hK ⊢
      have e_6 : s 6 = .string N := h_6 (hN.out 6 rfl)
      simp only [e_6] at hK ⊢
      have z1 := ht1.out
      go_simp
      refine hK.out _ _ ?_
      exact ⟨h_0, h_1, h_2, h_3, h_4, h_5, h_6, fun _ => rfl, h_8, h_9, h_1009, hM⟩
    · intro L s w9 hN hU hi hC hS K hK
      dsimp only at hK ⊢
      simp only [Act.put, List.setIfInBounds_toArray, List.set_cons_zero, List.set_cons_succ] at hK
      obtain ⟨h_0, h_1, h_2, h_3, h_4, h_5, h_6, h_7, h_8, h_9, h_1009, hM⟩ := hS
      refine ite_of rfl ?_
      have e_0 : s 0 = .string ((⟨#[97, 114, 114, 97, 121, 32]⟩ : ByteArray) ++ (⟨#[91, 49, 46, 46]⟩ ++ NS ++ ⟨#[93]⟩) ++ ⟨#[32, 111, 102, 32]⟩ ++ ⟨#[118, 97, 114, 32]⟩) := h_0 (hN.out 0 rfl)
      simp only [e_0] at hK ⊢
      have e_7 : s 7 = .string (T ++ ⟨#[58, 32]⟩ ++ N) := h_7 (hN.out 7 rfl)
      simp only [e_7] at hK ⊢
      have z1 := ht2.out
      go_simp
      refine hK.out _ _ ?_
      exact ⟨h_0, h_1, h_2, h_3, h_4, h_5, h_6, h_7, fun _ => rfl, h_9, h_1009, hM⟩
    · intro L s w9 hN hU hi hC hS K hK
      dsimp only at hK ⊢
      simp only [Act.put, List.setIfInBounds_toArray, List.set_cons_zero, List.set_cons_succ] at hK
      obtain ⟨h_0, h_1, h_2, h_3, h_4, h_5, h_6, h_7, h_8, h_9, h_1009, hM⟩ := hS
      refine ite_of rfl ?_
      have e_8 : s 8 = .string (((⟨#[97, 114, 114, 97, 121, 32]⟩ : ByteArray) ++ (⟨#[91, 49, 46, 46]⟩ ++ NS ++ ⟨#[93]⟩) ++ ⟨#[32, 111, 102, 32]⟩ ++ ⟨#[118, 97, 114, 32]⟩) ++ (T ++ ⟨#[58, 32]⟩ ++ N)) := h_8 (hN.out 8 rfl)
      simp only [e_8] at hK ⊢
      go_simp
      refine hK.out _ _ ?_
      exact ⟨h_0, h_1, h_2, h_3, h_4, h_5, h_6, h_7, h_8, fun _ => rfl, fun h => no_t h, hM⟩
  intro L s w9 hall hS
  obtain ⟨h_0, h_1, h_2, h_3, h_4, h_5, h_6, h_7, h_8, h_9, h_1009, hM⟩ := hS
  have e9_9 := h_9 (hall 9 (by decide))
  clear hall h_0 h_1 h_2 h_3 h_4 h_5 h_6 h_7 h_8 h_9 h_1009
  have M2 := hM
  clear hM M
  obtain ⟨m1, m2, m3, m4, m5, m6, m7, m8⟩ := Blk.eight (M2.k (i := 0) rfl)
  have hy0 := HY0.out
  have hy1 := HY1.out
  have hy2 := HY2.out
  have hy3 := HY3.out
  have hy4 := HY4.out
  have hy5 := HY5.out
  go_wp2_with fail
  refine (HJ.out _ M2.bel).mono ?_
  rintro e w3 ⟨rfl, q3⟩
  have M := M2.below q3
  clear M2 q3 HJ m1 m2 m3 m4 m5 m6 m7 m8
  obtain ⟨m1, m2, m3, m4, m5, m6, m7, m8⟩ := Blk.eight (M.k (i := 0) rfl)
  cases jb with
  | false =>
    go_wp2_with fail
    refine bodyPost_ret (v := .tuple #[.string ((⟨#[97, 114, 114, 97, 121, 32]⟩ : ByteArray) ++ (⟨#[91, 49, 46, 46]⟩ ++ NS ++ ⟨#[93]⟩) ++ ⟨#[32, 111, 102, 32]⟩ ++ ⟨#[118, 97, 114, 32]⟩ ++ (T ++ ⟨#[58, 32]⟩ ++ N) ++ (⟨#[32, 58, 58, 32, 111, 117, 116, 112, 117, 116, 95, 97, 114, 114, 97, 121, 40]⟩ ++ (⟨#[91, 49, 46, 46]⟩ ++ NS ++ ⟨#[93]⟩) ++ ⟨#[41]⟩) ++ ⟨#[32, 61, 32, 91]⟩ ++ V ++ ⟨#[93, 59]⟩), .bool false]) (by simp [results, Tryz.results45, go_sem]) rfl ⟨?_, M.bel⟩
    rw [HX.out, HF.out]
    rfl
  | true =>
    by_cases hd : d = 0
    · subst hd
      by_cases hk : ak = 0
      · subst hk
        go_wp2_with fail
        refine (HN.out _ (hE.below M.bel)).mono ?_
        rintro e w5 ⟨rfl, q5⟩
        go_wp2_with fail
        refine bodyPost_ret (v := .tuple #[.string ((⟨#[97, 114, 114, 97, 121, 32]⟩ : ByteArray) ++ (⟨#[91, 49, 46, 46]⟩ ++ NS ++ ⟨#[93]⟩) ++ ⟨#[32, 111, 102, 32]⟩ ++ ⟨#[118, 97, 114, 32]⟩ ++ (T ++ ⟨#[58, 32]⟩ ++ N) ++ (⟨#[32, 58, 58, 32, 111, 117, 116, 112, 117, 116, 95, 97, 114, 114, 97, 121, 40]⟩ ++ (⟨#[91, 49, 46, 46]⟩ ++ NS ++ ⟨#[93]⟩) ++ ⟨#[41]⟩) ++ ⟨#[32, 61, 32, 91]⟩ ++ V ++ ⟨#[93, 59]⟩), .bool nb]) (by simp [results, Tryz.results45, go_sem]) rfl ⟨?_, (M.below q5).bel⟩
        rw [HX.out, HF.out]
        rfl
      · have hk1 := int_ne0 hk
        have HK := Lib.hid hk1
        go_wp2_with fail
        refine bodyPost_ret (v := .tuple #[.string ((⟨#[97, 114, 114, 97, 121, 32]⟩ : ByteArray) ++ (⟨#[91, 49, 46, 46]⟩ ++ NS ++ ⟨#[93]⟩) ++ ⟨#[32, 111, 102, 32]⟩ ++ ⟨#[118, 97, 114, 32]⟩ ++ (T ++ ⟨#[58, 32]⟩ ++ N) ++ (⟨#[32, 58, 58, 32, 111, 117, 116, 112, 117, 116, 95, 97, 114, 114, 97, 121, 40]⟩ ++ (⟨#[91, 49, 46, 46]⟩ ++ NS ++ ⟨#[93]⟩) ++ ⟨#[41]⟩) ++ ⟨#[32, 61, 32, 91]⟩ ++ V ++ ⟨#[93, 59]⟩), .bool false]) (by simp [results, Tryz.results45, go_sem]) rfl ⟨?_, M.bel⟩
        rw [HX.out, HF.out, HK.out]
        rfl
    · have hd1 := nat_ne0 hd
      have HD := Lib.hid (show (d == 0) = false by simp [hd])
      go_wp2_with fail
      refine bodyPost_ret (v := .tuple #[.string ((⟨#[97, 114, 114, 97, 121, 32]⟩ : ByteArray) ++ (⟨#[91, 49, 46, 46]⟩ ++ NS ++ ⟨#[93]⟩) ++ ⟨#[32, 111, 102, 32]⟩ ++ ⟨#[118, 97, 114, 32]⟩ ++ (T ++ ⟨#[58, 32]⟩ ++ N) ++ (⟨#[32, 58, 58, 32, 111, 117, 116, 112, 117, 116, 95, 97, 114, 114, 97, 121, 40]⟩ ++ (⟨#[91, 49, 46, 46]⟩ ++ NS ++ ⟨#[93]⟩) ++ ⟨#[41]⟩) ++ ⟨#[32, 61, 32, 91]⟩ ++ V ++ ⟨#[93, 59]⟩), .bool false]) (by simp [results, Tryz.results45, go_sem]) rfl ⟨?_, M.bel⟩
      rw [HX.out, HF.out, HD.out]
      rfl
set_option maxRecDepth 100000 in
set_option maxHeartbeats 40000000 in
theorem varr_vn {F : Nat → Prop} (nm : List UInt8) (b : Bool) (dm : List (Int × Int)) (n3 : Nat) (A3 : Option Addr) (sz : Int) (vs : List Ex) (n6 : Nat) (A6 : Option Addr) (ak : Int) (w : World) (hE : Env w) (hnm : nm.length ≤ 10000) (hsz : I64 sz) (hr : ∀ y ∈ vs, RngE y)
    (ha : (layE 102).row.P F w (.slice A6 vs.length n6) vs) :
    Calls Tryz.prog 45 #[.agg #[.int .i64 4, .string ⟨nm.toArray⟩, .bool b, .slice A3 dm.length n3, .int .i64 sz, .bool false, .slice A6 vs.length n6, .int .i64 ak]] w fun e w' => e = .returned (TXV (arrS ⟨4, nm, b, dm, sz, false, vs, ak⟩)) ∧ Below w.heap.size w w' := by
  have hF := arrS_eq 4 nm b dm sz false vs ak
  have hJl := joinS_len (g := plainS) (l := vs) (fun y hy h => plain0_len (hr y hy).1 h)
  have HJ := Lib.hid (fun (w' : World) (q : Below w.heap.size w w') => vjoin_ex (f := 86) (F := F) plainS (fun _ _ => rfl) A6 n6 vs w' (Dt.below _ ha q (Nat.le_refl _)) (hE.below q) (fun y hy h => Nat.le_trans (plain0_len (hr y hy).1 h) (by decide)) (fun y hy A' c' w' hE' _ => vplain_any y.k y.n y.s y.l.length c' A' (hr y hy).1 w' hE'))
  generalize joinS (vs.map plainS) = J at *
  obtain ⟨t, jb⟩ := J
  dsimp only [TXV] at hF hJl HJ
  have HT := Lib.hid (vtruth_any b)
  have HN := Lib.hid (vname_any ⟨nm.toArray⟩)
  have HU := Lib.hid (fun (w' : World) (hE' : Env w') => vnum_any sz hsz w' hE')
  have hX : ∀ B, (Value.tuple #[.string ((⟨#[97, 114, 114, 97, 121, 32]⟩ : ByteArray) ++ (⟨#[91, 49, 46, 46]⟩ ++ ⟨(Lib.itoa sz).toArray⟩ ++ ⟨#[93]⟩) ++ ⟨#[32, 111, 102, 32]⟩ ++ ⟨#[118, 97, 114, 32]⟩ ++ (⟨(truthS b).toArray⟩ ++ ⟨#[58, 32]⟩ ++ ⟨nm.toArray⟩) ++ ⟨#[32, 61, 32, 91]⟩ ++ ⟨t.toArray⟩ ++ ⟨#[93, 59]⟩), .bool B]) = TXV (wArray ++ [32] ++ ([91, 49, 46, 46] ++ Lib.itoa sz ++ [93]) ++ [32, 111, 102, 32] ++ [118, 97, 114, 32] ++ truthS b ++ [58, 32] ++ nm ++ [] ++ [32, 61, 32, 91] ++ t ++ [93, 59], B) := fun B => by
    have h : ((⟨#[97, 114, 114, 97, 121, 32]⟩ : ByteArray) ++ (⟨#[91, 49, 46, 46]⟩ ++ ⟨(Lib.itoa sz).toArray⟩ ++ ⟨#[93]⟩) ++ ⟨#[32, 111, 102, 32]⟩ ++ ⟨#[118, 97, 114, 32]⟩ ++ (⟨(truthS b).toArray⟩ ++ ⟨#[58, 32]⟩ ++ ⟨nm.toArray⟩) ++ ⟨#[32, 61, 32, 91]⟩ ++ ⟨t.toArray⟩ ++ ⟨#[93, 59]⟩) = ⟨(wArray ++ [32] ++ ([91, 49, 46, 46] ++ Lib.itoa sz ++ [93]) ++ [32, 111, 102, 32] ++ [118, 97, 114, 32] ++ truthS b ++ [58, 32] ++ nm ++ [] ++ [32, 61, 32, 91] ++ t ++ [93, 59]).toArray⟩ := by
      apply ByteArray.ext
      simp [wOutArray, wArray]
    unfold TXV
    rw [h]
  have hUl : (⟨(Lib.itoa sz).toArray⟩ : ByteArray).size ≤ 21 := itoa_len hsz
  have hTl : (⟨(truthS b).toArray⟩ : ByteArray).size ≤ 10 := by cases b <;> decide
  have hNl := name_len hnm
  have hVl : (⟨t.toArray⟩ : ByteArray).size ≤ 600000 := hJl
  have hnb : nameB (⟨nm.toArray⟩ : ByteArray).data.toList = nameB nm := rfl
  rw [hnb] at HN
  generalize (⟨(Lib.itoa sz).toArray⟩ : ByteArray) = NS at *
  generalize (⟨(truthS b).toArray⟩ : ByteArray) = T at *
  generalize (⟨nm.toArray⟩ : ByteArray) = N at *
  generalize (⟨t.toArray⟩ : ByteArray) = V at *
  have hz0 : ¬ 9223372036854775807 < 4 + NS.size := by omega
  have hz1 : ¬ 9223372036854775807 < 4 + NS.size + 1 := by omega
  have hz2 : ¬ 9223372036854775807 < 6 + (4 + NS.size + 1) := by omega
  have hz3 : ¬ 9223372036854775807 < 6 + (4 + NS.size + 1) + 4 := by omega
  have hz4 : ¬ 9223372036854775807 < 6 + (4 + NS.size + 1) + 4 + 4 := by omega
  have ht0 : Hid (¬ 9223372036854775807 < T.size + 2) := by show ¬ _; omega
  have ht1 : Hid (¬ 9223372036854775807 < T.size + 2 + N.size) := by show ¬ _; omega
  have ht2 : Hid (¬ 9223372036854775807 < 6 + (4 + NS.size + 1) + 4 + 4 + (T.size + 2 + N.size)) := by show ¬ _; omega
  have HY0 : Hid (¬ 9223372036854775807 < 6 + (4 + NS.size + 1) + 4 + 4 + (T.size + 2 + N.size) + 4) := by show ¬ _; omega
  have HY1 : Hid (¬ 9223372036854775807 < 6 + (4 + NS.size + 1) + 4 + 4 + (T.size + 2 + N.size) + 4 + V.size) := by show ¬ _; omega
  have HY2 : Hid (¬ 9223372036854775807 < 6 + (4 + NS.size + 1) + 4 + 4 + (T.size + 2 + N.size) + 4 + V.size + 2) := by show ¬ _; omega
  clear hUl hTl hNl hVl hJl hnm hnb hr ha hsz
  have HF := Lib.hid hF
  have HX := Lib.hid hX
  clear hF hX
  generalize nameB nm = nb at *
  generalize dm.length = d at *
  have q0 := below_alloc1 w (.cells #[.int .i64 4, .string N, .bool b, .slice A3 d n3, .int .i64 sz, .bool false, .slice A6 vs.length n6, .int .i64 ak] 47)
  go_enter Tryz.func45, Tryz.ntmps45
  go_wp2_with fail
  refine (HU.out _ (hE.below q0)).mono ?_
  rintro e w1 ⟨rfl, q1⟩
  have M : Mem w w1 [(w.heap.size, 47, #[.int .i64 4, .string N, .bool b, .slice A3 d n3, .int .i64 sz, .bool false, .slice A6 vs.length n6, .int .i64 ak])] [] := ((Mem.start w).new 47 _).below q1
  clear q0 q1
  obtain ⟨m1, m2, m3, m4, m5, m6, m7, m8⟩ := Blk.eight (M.k (i := 0) rfl)
  go_upto_region 5 with fail
  clear m1 m2 m3 m4 m5 m6 m7 m8
  refine region_gen0 (n := 10) (frame := ?frame2) (fun L s w' => (L 0 = true → s 0 = .string ((⟨#[97, 114, 114, 97, 121, 32]⟩ : ByteArray) ++ (⟨#[91, 49, 46, 46]⟩ ++ NS ++ ⟨#[93]⟩) ++ ⟨#[32, 111, 102, 32]⟩ ++ ⟨#[118, 97, 114, 32]⟩)) ∧ (L 1 = true → s 1 = .pointer (some ⟨w.heap.size, 2, none⟩)) ∧ (L 2 = true → s 2 = .bool b) ∧ (L 3 = true → s 3 = .string T) ∧ (L 4 = true → s 4 = .string (T ++ ⟨#[58, 32]⟩)) ∧ (L 5 = true → s 5 = .pointer (some ⟨w.heap.size, 1, none⟩)) ∧ (L 6 = true → s 6 = .string N) ∧ (L 7 = true → s 7 = .string (T ++ ⟨#[58, 32]⟩ ++ N)) ∧ (L 8 = true → s 8 = .string (((⟨#[97, 114, 114, 97, 121, 32]⟩ : ByteArray) ++ (⟨#[91, 49, 46, 46]⟩ ++ NS ++ ⟨#[93]⟩) ++ ⟨#[32, 111, 102, 32]⟩ ++ ⟨#[118, 97, 114, 32]⟩) ++ (T ++ ⟨#[58, 32]⟩ ++ N))) ∧ (L 9 = true → s 9 = .string (((⟨#[97, 114, 114, 97, 121, 32]⟩ : ByteArray) ++ (⟨#[91, 49, 46, 46]⟩ ++ NS ++ ⟨#[93]⟩) ++ ⟨#[32, 111, 102, 32]⟩ ++ ⟨#[118, 97, 114, 32]⟩) ++ (T ++ ⟨#[58, 32]⟩ ++ N))) ∧ (L 9 = false → s 9 = .string ((⟨#[97, 114, 114, 97, 121, 32]⟩ : ByteArray) ++ (⟨#[91, 49, 46, 46]⟩ ++ NS ++ ⟨#[93]⟩) ++ ⟨#[32, 111, 102, 32]⟩ ++ ⟨#[118, 97, 114, 32]⟩)) ∧ Mem w w' [(w.heap.size, 47, #[.int .i64 4, .string N, .bool b, .slice A3 d n3, .int .i64 sz, .bool false, .slice A6 vs.length n6, .int .i64 ak])] []) (by kernel_rfl) (by kernel_rfl) (by kernel_rfl) rfl ?_ ?_ ?_ ?_
  case refine_1 => exact ⟨fun h => no_f h, fun h => no_f h, fun h => no_f h, fun h => no_f h, fun h => no_f h, fun h => no_f h, fun h => no_f h, fun h => no_f h, fun h => no_f h, fun h => no_f h, fun _ => rfl, (M).drew⟩
  case refine_2 =>
    intro s
    simp only [fr, Act.put, List.append_eq, List.cons_append, List.nil_append, List.setIfInBounds_toArray, List.set_cons_zero, List.set_cons_succ, Nat.reduceAdd]
    rfl
  case refine_3 =>
    refine Steps.cons 0 (j := 1) rfl ?_ (Steps.cons 1 (j := 2) rfl ?_ (Steps.cons 2 (j := 3) rfl ?_ (Steps.cons 3 (j := 4) rfl ?_ (Steps.cons 4 (j := 5) rfl ?_ (Steps.cons 5 (j := 6) rfl ?_ (Steps.cons 6 (j := 7) rfl ?_ (Steps.cons 7 (j := 8) rfl ?_ (Steps.cons 8 (j := 9) rfl ?_ (Steps.cons 9 (j := 10) rfl ?_ Steps.nil)))))))))
    · intro L s w9 hN hU hi hC hS K hK
      dsimp only at hK ⊢
      simp only [Act.put, List.setIfInBounds_toArray, List.set_cons_zero, List.set_cons_succ] at hK
      obtain ⟨h_0, h_1, h_2, h_3, h_4, h_5, h_6, h_7, h_8, h_9, h_1009, hM⟩ := hS
      refine ite_of rfl ?_
      have e_z := h_1009 (Shut.no hC 9 8 rfl rfl (hU.out 8 _ rfl rfl))
      simp only [e_z] at hK ⊢
      go_simp
      refine hK.out _ _ ?_
      exact ⟨fun _ => rfl, h_1, h_2, h_3, h_4, h_5, h_6, h_7, h_8, h_9, h_1009, hM⟩
    · intro L s w9 hN hU hi hC hS K hK
      dsimp only at hK ⊢
      simp only [Act.put, List.setIfInBounds_toArray, List.set_cons_zero, List.set_cons_succ] at hK
      obtain ⟨h_0, h_1, h_2, h_3, h_4, h_5, h_6, h_7, h_8, h_9, h_1009, hM⟩ := hS
      refine ite_of rfl ?_
      go_simp
      refine hK.out _ _ ?_
      exact ⟨h_0, fun _ => rfl, h_2, h_3, h_4, h_5, h_6, h_7, h_8, h_9, h_1009, hM⟩
    · intro L s w9 hN hU hi hC hS K hK
      dsimp only at hK ⊢
      simp only [Act.put, List.setIfInBounds_toArray, List.set_cons_zero, List.set_cons_succ] at hK
      obtain ⟨h_0, h_1, h_2, h_3, h_4, h_5, h_6, h_7, h_8, h_9, h_1009, hM⟩ := hS
      refine ite_of rfl ?_
      have e_1 : s 1 = .pointer (some ⟨w.heap.size, 2, none⟩) := h_1 (hN.out 1 rfl)
      simp only [e_1] at hK ⊢
      obtain ⟨u1, u2, u3, u4, u5, u6, u7, u8⟩ := Blk.eight (hM.k (i := 0) rfl)
      go_simp
      refine hK.out _ _ ?_
      exact ⟨h_0, h_1, fun _ => rfl, h_3, h_4, h_5, h_6, h_7, h_8, h_9, h_1009, hM⟩
    · intro L s w9 hN hU hi hC hS K hK
      dsimp only at hK ⊢
      simp only [Act.put, List.setIfInBounds_toArray, List.set_cons_zero, List.set_cons_succ] at hK
      obtain ⟨h_0, h_1, h_2, h_3, h_4, h_5, h_6, h_7, h_8, h_9, h_1009, hM⟩ := hS
      refine ite_of rfl ?_
      have e_2 : s 2 = .bool b := h_2 (hN.out 2 rfl)
      simp only [e_2] at hK ⊢
      go_simp
      go_at_call 87
      refine (HT.out _).mono ?_
      rintro e9 w10 ⟨rfl, q⟩
      refine hK.out _ _ ?_
      exact ⟨h_0, h_1, h_2, fun _ => rfl, h_4, h_5, h_6, h_7, h_8, h_9, h_1009, hM.below q⟩
    · intro L s w9 hN hU hi hC hS K hK
      dsimp only at hK ⊢
      simp only [Act.put, List.setIfInBounds_toArray, List.set_cons_zero, List.set_cons_succ] at hK
      obtain ⟨h_0, h_1, h_2, h_3, h_4, h_5, h_6, h_7, h_8, h_9, h_1009, hM⟩ := hS
      refine ite_of rfl ?_
      have e_3 : s 3 = .string T := h_3 (hN.out 3 rfl)
      simp only [e_3] at hK ⊢
      have z1 := ht0.out
      go_simp
      refine hK.out _ _ ?_
      exact ⟨h_0, h_1, h_2, h_3, fun _ => rfl, h_5, h_6, h_7, h_8, h_9, h_1009, hM⟩
    · intro L s w9 hN hU hi hC hS K hK
      dsimp only at hK ⊢
      simp only [Act.put, List.setIfInBounds_toArray, List.set_cons_zero, List.set_cons_succ] at hK
      obtain ⟨h_0, h_1, h_2, h_3, h_4, h_5, h_6, h_7, h_8, h_9, h_1009, hM⟩ := hS
      refine ite_of rfl ?_
      go_simp
      refine hK.out _ _ ?_
      exact ⟨h_0, h_1, h_2, h_3, h_4, fun _ => rfl, h_6, h_7, h_8, h_9, h_1009, hM⟩
    · intro L s w9 hN hU hi hC hS K hK
      dsimp only at hK ⊢
      simp only [Act.put, List.setIfInBounds_toArray, List.set_cons_zero, List.set_cons_succ] at hK
      obtain ⟨h_0, h_1, h_2, h_3, h_4, h_5, h_6, h_7, h_8, h_9, h_1009, hM⟩ := hS
      refine ite_of rfl ?_
      have e_5 : s 5 = .pointer (some ⟨w.heap.size, 1, none⟩) := h_5 (hN.out 5 rfl)
      simp only [e_5] at hK ⊢
      obtain ⟨u1, u2, u3, u4, u5, u6, u7, u8⟩ := Blk.eight (hM.k (i := 0) rfl)
      go_simp
      refine hK.out _ _ ?_
      exact ⟨h_0, h_1, h_2, h_3, h_4, h_5, fun _ => rfl, h_7, h_8, h_9, h_1009, hM⟩
    · intro L s w9 hN hU hi hC hS K hK
      dsimp only at hK ⊢
      simp only [Act.put, List.setIfInBounds_toArray, List.set_cons_zero, List.set_cons_succ] at hK
      obtain ⟨h_0, h_1, h_2, h_3, h_4, h_5, h_6, h_7, h_8, h_9, h_1009, hM⟩ := hS
      refine ite_of rfl ?_
      have e_4 : s 4 = .string (T ++ ⟨#[58, 32]⟩) := h_4 (hN.out 4 rfl)
      simp only [e_4] at hK ⊢
      have e_6 : s 6 = .string N := h_6 (hN.out 6 rfl)
      simp only [e_6] at hK ⊢
      have z1 := ht1.out
      go_simp
      refine hK.out _ _ ?_
      exact ⟨h_0, h_1, h_2, h_3, h_4, h_5, h_6, fun _ => rfl, h_8, h_9, h_1009, hM⟩
    · intro L s w9 hN hU hi hC hS K hK
      dsimp only at hK ⊢
      simp only [Act.put, List.setIfInBounds_toArray, List.set_cons_zero, List.set_cons_succ] at hK
      obtain ⟨h_0, h_1, h_2, h_3, h_4, h_5, h_6, h_7, h_8, h_9, h_1009, hM⟩ := hS
      refine ite_of rfl ?_
      have e_0 : s 0 = .string ((⟨#[97, 114, 114, 97, 121, 32]⟩ : ByteArray) ++ (⟨#[91, 49, 46, 46]⟩ ++ NS ++ ⟨#[93]⟩) ++ ⟨#[32, 111, 102, 32]⟩ ++ ⟨#[118, 97, 114, 32]⟩) := h_0 (hN.out 0 rfl)
      simp only [e_0] at hK ⊢
      have e_7 : s 7 = .string (T ++ ⟨#[58, 32]⟩ ++ N) := h_7 (hN.out 7 rfl)
      simp only [e_7] at hK ⊢
      have z1 := ht2.out
      go_simp
      refine hK.out _ _ ?_
      exact ⟨h_0, h_1, h_2, h_3, h_4, h_5, h_6, h_7, fun _ => rfl, h_9, h_1009, hM⟩
    · intro L s w9 hN hU hi hC hS K hK
      dsimp only at hK ⊢
      simp only [Act.put, List.setIfInBounds_toArray, List.set_cons_zero, List.set_cons_succ] at hK
      obtain ⟨h_0, h_1, h_2, h_3, h_4, h_5, h_6, h_7, h_8, h_9, h_1009, hM⟩ := hS
      refine ite_of rfl ?_
      have e_8 : s 8 = .string (((⟨#[97, 114, 114, 97, 121, 32]⟩ : ByteArray) ++ (⟨#[91, 49, 46, 46]⟩ ++ NS ++ ⟨#[93]⟩) ++ ⟨#[32, 111, 102, 32]⟩ ++ ⟨#[118, 97, 114, 32]⟩) ++ (T ++ ⟨#[58, 32]⟩ ++ N)) := h_8 (hN.out 8 rfl)
      simp only [e_8] at hK ⊢
      go_simp
      refine hK.out _ _ ?_
      exact ⟨h_0, h_1, h_2, h_3, h_4, h_5, h_6, h_7, h_8, fun _ => rfl, fun h => no_t h, hM⟩
  intro L s w9 hall hS
  obtain ⟨h_0, h_1, h_2, h_3, h_4, h_5, h_6, h_7, h_8, h_9, h_1009, hM⟩ := hS
  have e9_9 := h_9 (hall 9 (by decide))
  clear hall h_0 h_1 h_2 h_3 h_4 h_5 h_6 h_7 h_8 h_9 h_1009
  have M2 := hM
  clear hM M
  obtain ⟨m1, m2, m3, m4, m5, m6, m7, m8⟩ := Blk.eight (M2.k (i := 0) rfl)
  have hy0 := HY0.out
  have hy1 := HY1.out
  have hy2 := HY2.out
  go_wp2_with fail
  refine (HJ.out _ M2.bel).mono ?_
  rintro e w3 ⟨rfl, q3⟩
  have M := M2.below q3
  clear M2 q3 HJ m1 m2 m3 m4 m5 m6 m7 m8
  obtain ⟨m1, m2, m3, m4, m5, m6, m7, m8⟩ := Blk.eight (M.k (i := 0) rfl)
  cases jb with
  | false =>
    go_wp2_with fail
    refine bodyPost_ret (v := .tuple #[.string ((⟨#[97, 114, 114, 97, 121, 32]⟩ : ByteArray) ++ (⟨#[91, 49, 46, 46]⟩ ++ NS ++ ⟨#[93]⟩) ++ ⟨#[32, 111, 102, 32]⟩ ++ ⟨#[118, 97, 114, 32]⟩ ++ (T ++ ⟨#[58, 32]⟩ ++ N) ++ ⟨#[32, 61, 32, 91]⟩ ++ V ++ ⟨#[93, 59]⟩), .bool false]) (by simp [results, Tryz.results45, go_sem]) rfl ⟨?_, M.bel⟩
    rw [HX.out, HF.out]
    rfl
  | true =>
    by_cases hd : d = 0
    · subst hd
      by_cases hk : ak = 0
      · subst hk
        go_wp2_with fail
        refine (HN.out _ (hE.below M.bel)).mono ?_
        rintro e w5 ⟨rfl, q5⟩
        go_wp2_with fail
        refine bodyPost_ret (v := .tuple #[.string ((⟨#[97, 114, 114, 97, 121, 32]⟩ : ByteArray) ++ (⟨#[91, 49, 46, 46]⟩ ++ NS ++ ⟨#[93]⟩) ++ ⟨#[32, 111, 102, 32]⟩ ++ ⟨#[118, 97, 114, 32]⟩ ++ (T ++ ⟨#[58, 32]⟩ ++ N) ++ ⟨#[32, 61, 32, 91]⟩ ++ V ++ ⟨#[93, 59]⟩), .bool nb]) (by simp [results, Tryz.results45, go_sem]) rfl ⟨?_, (M.below q5).bel⟩
        rw [HX.out, HF.out]
        rfl
      · have hk1 := int_ne0 hk
        have HK := Lib.hid hk1
        go_wp2_with fail
        refine bodyPost_ret (v := .tuple #[.string ((⟨#[97, 114, 114, 97, 121, 32]⟩ : ByteArray) ++ (⟨#[91, 49, 46, 46]⟩ ++ NS ++ ⟨#[93]⟩) ++ ⟨#[32, 111, 102, 32]⟩ ++ ⟨#[118, 97, 114, 32]⟩ ++ (T ++ ⟨#[58, 32]⟩ ++ N) ++ ⟨#[32, 61, 32, 91]⟩ ++ V ++ ⟨#[93, 59]⟩), .bool false]) (by simp [results, Tryz.results45, go_sem]) rfl ⟨?_, M.bel⟩
        rw [HX.out, HF.out, HK.out]
        rfl
    · have hd1 := nat_ne0 hd
      have HD := Lib.hid (show (d == 0) = false by simp [hd])
      go_wp2_with fail
      refine bodyPost_ret (v := .tuple #[.string ((⟨#[97, 114, 114, 97, 121, 32]⟩ : ByteArray) ++ (⟨#[91, 49, 46, 46]⟩ ++ NS ++ ⟨#[93]⟩) ++ ⟨#[32, 111, 102, 32]⟩ ++ ⟨#[118, 97, 114, 32]⟩ ++ (T ++ ⟨#[58, 32]⟩ ++ N) ++ ⟨#[32, 61, 32, 91]⟩ ++ V ++ ⟨#[93, 59]⟩), .bool false]) (by simp [results, Tryz.results45, go_sem]) rfl ⟨?_, M.bel⟩
      rw [HX.out, HF.out, HD.out]
      rfl
set_option maxRecDepth 100000 in
set_option maxHeartbeats 40000000 in
theorem varr_po {F : Nat → Prop} (k : Int) (hk4 : ¬ k = 4) (nm : List UInt8) (b : Bool) (dm : List (Int × Int)) (n3 : Nat) (A3 : Option Addr) (sz : Int) (vs : List Ex) (n6 : Nat) (A6 : Option Addr) (ak : Int) (w : World) (hE : Env w) (hnm : nm.length ≤ 10000) (hsz : I64 sz) (hr : ∀ y ∈ vs, RngE y)
    (ha : (layE 102).row.P F w (.slice A6 vs.length n6) vs) :
    Calls Tryz.prog 45 #[.agg #[.int .i64 k, .string ⟨nm.toArray⟩, .bool b, .slice A3 dm.length n3, .int .i64 sz, .bool true, .slice A6 vs.length n6, .int .i64 ak]] w fun e w' => e = .returned (TXV (arrS ⟨k, nm, b, dm, sz, true, vs, ak⟩)) ∧ Below w.heap.size w w' := by
  have hF := arrS_eq k nm b dm sz true vs ak
  rw [if_neg hk4, show (k == 4) = false by simp [hk4]] at hF
  have hJl := joinS_len (g := plainS) (l := vs) (fun y hy h => plain0_len (hr y hy).1 h)
  have HJ := Lib.hid (fun (w' : World) (q : Below w.heap.size w w') => vjoin_ex (f := 86) (F := F) plainS (fun _ _ => rfl) A6 n6 vs w' (Dt.below _ ha q (Nat.le_refl _)) (hE.below q) (fun y hy h => Nat.le_trans (plain0_len (hr y hy).1 h) (by decide)) (fun y hy A' c' w' hE' _ => vplain_any y.k y.n y.s y.l.length c' A' (hr y hy).1 w' hE'))
  generalize joinS (vs.map plainS) = J at *
  obtain ⟨t, jb⟩ := J
  dsimp only [TXV] at hF hJl HJ
  have HT := Lib.hid (vtruth_any b)
  have HN := Lib.hid (vname_any ⟨nm.toArray⟩)
  have HU := Lib.hid (fun (w' : World) (hE' : Env w') => vnum_any sz hsz w' hE')
  have hX : ∀ B, (Value.tuple #[.string ((⟨#[97, 114, 114, 97, 121, 32]⟩ : ByteArray) ++ (⟨#[91, 49, 46, 46]⟩ ++ ⟨(Lib.itoa sz).toArray⟩ ++ ⟨#[93]⟩) ++ ⟨#[32, 111, 102, 32]⟩ ++ (⟨(truthS b).toArray⟩ ++ ⟨#[58, 32]⟩ ++ ⟨nm.toArray⟩) ++ (⟨#[32, 58, 58, 32, 111, 117, 116, 112, 117, 116, 95, 97, 114, 114, 97, 121, 40]⟩ ++ (⟨#[91, 49, 46, 46]⟩ ++ ⟨(Lib.itoa sz).toArray⟩ ++ ⟨#[93]⟩) ++ ⟨#[41]⟩) ++ ⟨#[32, 61, 32, 91]⟩ ++ ⟨t.toArray⟩ ++ ⟨#[93, 59]⟩), .bool B]) = TXV (wArray ++ [32] ++ ([91, 49, 46, 46] ++ Lib.itoa sz ++ [93]) ++ [32, 111, 102, 32] ++ [] ++ truthS b ++ [58, 32] ++ nm ++ ([32, 58, 58, 32] ++ wOutArray ++ [40] ++ ([91, 49, 46, 46] ++ Lib.itoa sz ++ [93]) ++ [41]) ++ [32, 61, 32, 91] ++ t ++ [93, 59], B) := fun B => by
    have h : ((⟨#[97, 114, 114, 97, 121, 32]⟩ : ByteArray) ++ (⟨#[91, 49, 46, 46]⟩ ++ ⟨(Lib.itoa sz).toArray⟩ ++ ⟨#[93]⟩) ++ ⟨#[32, 111, 102, 32]⟩ ++ (⟨(truthS b).toArray⟩ ++ ⟨#[58, 32]⟩ ++ ⟨nm.toArray⟩) ++ (⟨#[32, 58, 58, 32, 111, 117, 116, 112, 117, 116, 95, 97, 114, 114, 97, 121, 40]⟩ ++ (⟨#[91, 49, 46, 46]⟩ ++ ⟨(Lib.itoa sz).toArray⟩ ++ ⟨#[93]⟩) ++ ⟨#[41]⟩) ++ ⟨#[32, 61, 32, 91]⟩ ++ ⟨t.toArray⟩ ++ ⟨#[93, 59]⟩) = ⟨(wArray ++ [32] ++ ([91, 49, 46, 46] ++ Lib.itoa sz ++ [93]) ++ [32, 111, 102, 32] ++ [] ++ truthS b ++ [58, 32] ++ nm ++ ([32, 58, 58, 32] ++ wOutArray ++ [40] ++ ([91, 49, 46, 46] ++ Lib.itoa sz ++ [93]) ++ [41]) ++ [32, 61, 32, 91] ++ t ++ [93, 59]).toArray⟩ := by
      apply ByteArray.ext
      simp [wOutArray, wArray]
    unfold TXV
    rw [h]
  have hUl : (⟨(Lib.itoa sz).toArray⟩ : ByteArray).size ≤ 21 := itoa_len hsz
  have hTl : (⟨(truthS b).toArray⟩ : ByteArray).size ≤ 10 := by cases b <;> decide
  have hNl := name_len hnm
  have hVl : (⟨t.toArray⟩ : ByteArray).size ≤ 600000 := hJl
  have hnb : nameB (⟨nm.toArray⟩ : ByteArray).data.toList = nameB nm := rfl
  rw [hnb] at HN
  generalize (⟨(Lib.itoa sz).toArray⟩ : ByteArray) = NS at *
  generalize (⟨(truthS b).toArray⟩ : ByteArray) = T at *
  generalize (⟨nm.toArray⟩ : ByteArray) = N at *
  generalize (⟨t.toArray⟩ : ByteArray) = V at *
  have hz0 : ¬ 9223372036854775807 < 4 + NS.size := by omega
  have hz1 : ¬ 9223372036854775807 < 4 + NS.size + 1 := by omega
  have hz2 : ¬ 9223372036854775807 < 6 + (4 + NS.size + 1) := by omega
  have hz3 : ¬ 9223372036854775807 < 6 + (4 + NS.size + 1) + 4 := by omega
  have ht0 : Hid (¬ 9223372036854775807 < T.size + 2) := by show ¬ _; omega
  have ht1 : Hid (¬ 9223372036854775807 < T.size + 2 + N.size) := by show ¬ _; omega
  have ht2 : Hid (¬ 9223372036854775807 < 6 + (4 + NS.size + 1) + 4 + (T.size + 2 + N.size)) := by show ¬ _; omega
  have HY0 : Hid (¬ 9223372036854775807 < 17 + (4 + NS.size + 1)) := by show ¬ _; omega
  have HY1 : Hid (¬ 9223372036854775807 < 17 + (4 + NS.size + 1) + 1) := by show ¬ _; omega
  have HY2 : Hid (¬ 9223372036854775807 < 6 + (4 + NS.size + 1) + 4 + (T.size + 2 + N.size) + (17 + (4 + NS.size + 1) + 1)) := by show ¬ _; omega
  have HY3 : Hid (¬ 9223372036854775807 < 6 + (4 + NS.size + 1) + 4 + (T.size + 2 + N.size) + (17 + (4 + NS.size + 1) + 1) + 4) := by show ¬ _; omega
  have HY4 : Hid (¬ 9223372036854775807 < 6 + (4 + NS.size + 1) + 4 + (T.size + 2 + N.size) + (17 + (4 + NS.size + 1) + 1) + 4 + V.size) := by show ¬ _; omega
  have HY5 : Hid (¬ 9223372036854775807 < 6 + (4 + NS.size + 1) + 4 + (T.size + 2 + N.size) + (17 + (4 + NS.size + 1) + 1) + 4 + V.size + 2) := by show ¬ _; omega
  clear hUl hTl hNl hVl hJl hnm hnb hr ha hsz
  have HF := Lib.hid hF
  have HX := Lib.hid hX
  clear hF hX
  generalize nameB nm = nb at *
  generalize dm.length = d at *
  have q0 := below_alloc1 w (.cells #[.int .i64 k, .string N, .bool b, .slice A3 d n3, .int .i64 sz, .bool true, .slice A6 vs.length n6, .int .i64 ak] 47)
  have hk5 : (k == 4) = false := by simp [hk4]
  clear hk4
  go_enter Tryz.func45, Tryz.ntmps45
  go_wp2_with fail
  refine (HU.out _ (hE.below q0)).mono ?_
  rintro e w1 ⟨rfl, q1⟩
  have M : Mem w w1 [(w.heap.size, 47, #[.int .i64 k, .string N, .bool b, .slice A3 d n3, .int .i64 sz, .bool true, .slice A6 vs.length n6, .int .i64 ak])] [] := ((Mem.start w).new 47 _).below q1
  clear q0 q1
  obtain ⟨m1, m2, m3, m4, m5, m6, m7, m8⟩ := Blk.eight (M.k (i := 0) rfl)
  go_upto_region 5 with fail
  clear m1 m2 m3 m4 m5 m6 m7 m8
  refine region_gen0 (n := 10) (frame := ?frame3) (fun L s w' => (L 0 = true → s 0 = .string ((⟨#[97, 114, 114, 97, 121, 32]⟩ : ByteArray) ++ (⟨#[91, 49, 46, 46]⟩ ++ NS ++ ⟨#[93]⟩) ++ ⟨#[32, 111, 102, 32]⟩)) ∧ (L 1 = true → s 1 = .pointer (some ⟨w.heap.size, 2, none⟩)) ∧ (L 2 = true → s 2 = .bool b) ∧ (L 3 = true → s 3 = .string T) ∧ (L 4 = true → s 4 = .string (T ++ ⟨#[58, 32]⟩)) ∧ (L 5 = true → s 5 = .pointer (some ⟨w.heap.size, 1, none⟩)) ∧ (L 6 = true → s 6 = .string N) ∧ (L 7 = true → s 7 = .string (T ++ ⟨#[58, 32]⟩ ++ N)) ∧ (L 8 = true → s 8 = .string (((⟨#[97, 114, 114, 97, 121, 32]⟩ : ByteArray) ++ (⟨#[91, 49, 46, 46]⟩ ++ NS ++ ⟨#[93]⟩) ++ ⟨#[32, 111, 102, 32]⟩) ++ (T ++ ⟨#[58, 32]⟩ ++ N))) ∧ (L 9 = true → s 9 = .string (((⟨#[97, 114, 114, 97, 121, 32]⟩ : ByteArray) ++ (⟨#[91, 49, 46, 46]⟩ ++ NS ++ ⟨#[93]⟩) ++ ⟨#[32, 111, 102, 32]⟩) ++ (T ++ ⟨#[58, 32]⟩ ++ N))) ∧ (L 9 = false → s 9 = .string ((⟨#[97, 114, 114, 97, 121, 32]⟩ : ByteArray) ++ (⟨#[91, 49, 46, 46]⟩ ++ NS ++ ⟨#[93]⟩) ++ ⟨#[32, 111, 102, 32]⟩)) ∧ Mem w w' [(w.heap.size, 47, #[.int .i64 k, .string N, .bool b, .slice A3 d n3, .int .i64 sz, .bool true, .slice A6 vs.length n6, .int .i64 ak])] []) (by kernel_rfl) (by kernel_rfl) (by kernel_rfl) rfl ?_ ?_ ?_ ?_
  case refine_1 => exact ⟨fun h => no_f h, fun h => no_f h, fun h => no_f h, fun h => no_f h, fun h => no_f h, fun h => no_f h, fun h => no_f h, fun h => no_f h, fun h => no_f h, fun h => no_f h, fun _ => rfl, (M).drew⟩
  case refine_2 =>
    intro s
    simp only [fr, Act.put, List.append_eq, List.cons_append, List.nil_append, List.setIfInBounds_toArray, List.set_cons_zero, List.set_cons_succ, Nat.reduceAdd]
    rfl
  case refine_3 =>
    refine Steps.cons 0 (j := 1) rfl ?_ (Steps.cons 1 (j := 2) rfl ?_ (Steps.cons 2 (j := 3) rfl ?_ (Steps.cons 3 (j := 4) rfl ?_ (Steps.cons 4 (j := 5) rfl ?_ (Steps.cons 5 (j := 6) rfl ?_ (Steps.cons 6 (j := 7) rfl ?_ (Steps.cons 7 (j := 8) rfl ?_ (Steps.cons 8 (j := 9) rfl ?_ (Steps.cons 9 (j := 10) rfl ?_ Steps.nil)))))))))
    · intro L s w9 hN hU hi hC hS K hK
      dsimp only at hK ⊢
      simp only [Act.put, List.setIfInBounds_toArray, List.set_cons_zero, List.set_cons_succ] at hK
      obtain ⟨h_0, h_1, h_2, h_3, h_4, h_5, h_6, h_7, h_8, h_9, h_1009, hM⟩ := hS
      refine ite_of rfl ?_
      have e_z := h_1009 (Shut.no hC 9 8 rfl rfl (hU.out 8 _ rfl rfl))
      simp only [e_z] at hK ⊢
      go_simp
      refine hK.out _ _ ?_
      exact ⟨fun _ => rfl, h_1, h_2, h_3, h_4, h_5, h_6, h_7, h_8, h_9, h_1009, hM⟩
    · intro L s w9 hN hU hi hC hS K hK
      dsimp only at hK ⊢
      simp only [Act.put, List.setIfInBounds_toArray, List.set_cons_zero, List.set_cons_succ] at hK
      obtain ⟨h_0, h_1, h_2, h_3, h_4, h_5, h_6, h_7, h_8, h_9, h_1009, hM⟩ := hS
      refine ite_of rfl ?_
      go_simp
      refine hK.out _ _ ?_
      exact ⟨h_0, fun _ => rfl, h_2, h_3, h_4, h_5, h_6, h_7, h_8, h_9, h_1009, hM⟩
    · intro L s w9 hN hU hi hC hS K hK
      dsimp only at hK ⊢
      simp only [Act.put, List.setIfInBounds_toArray, List.set_cons_zero, List.set_cons_succ] at hK
      obtain ⟨h_0, h_1, h_2, h_3, h_4, h_5, h_6, h_7, h_8, h_9, h_1009, hM⟩ := hS
      refine ite_of rfl ?_
      have e_1 : s 1 = .pointer (some ⟨w.heap.size, 2, none⟩) := h_1 (hN.out 1 rfl)
      simp only [e_1] at hK ⊢
      obtain ⟨u1, u2, u3, u4, u5, u6, u7, u8⟩ := Blk.eight (hM.k (i := 0) rfl)
      go_simp
      refine hK.out _ _ ?_
      exact ⟨h_0, h_1, fun _ => rfl, h_3, h_4, h_5, h_6, h_7, h_8, h_9, h_1009, hM⟩
    · intro L s w9 hN hU hi hC hS K hK
      dsimp only at hK ⊢
      simp only [Act.put, List.setIfInBounds_toArray, List.set_cons_zero, List.set_cons_succ] at hK
      obtain ⟨h_0, h_1, h_2, h_3, h_4, h_5, h_6, h_7, h_8, h_9, h_1009, hM⟩ := hS
      refine ite_of rfl ?_
      have e_2 : s 2 = .bool b := h_2 (hN.out 2 rfl)
      simp only [e_2] at hK ⊢
      go_simp
      go_at_call 87
      refine (HT.out _).mono ?_
      rintro e9 w10 ⟨rfl, q⟩
      refine hK.out _ _ ?_
      exact ⟨h_0, h_1, h_2, fun _ => rfl, h_4, h_5, h_6, h_7, h_8, h_9, h_1009, hM.below q⟩
    · intro L s w9 hN hU hi hC hS K hK
      dsimp only at hK ⊢
      simp only [Act.put, List.setIfInBounds_toArray, List.set_cons_zero, List.set_cons_succ] at hK
      obtain ⟨h_0, h_1, h_2, h_3, h_4, h_5, h_6, h_7, h_8, h_9, h_1009, hM⟩ := hS
      refine ite_of rfl ?_
      have e_3 : s 3 = .string T := h_3 (hN.out 3 rfl)
      simp only [e_3] at hK ⊢
      have z1 := ht0.out
      go_simp
      refine hK.out _ _ ?_
      exact ⟨h_0, h_1, h_2, h_3, fun _ => rfl, h_5, h_6, h_7, h_8, h_9, h_1009, hM⟩
    · intro L s w9 hN hU hi hC hS K hK
      dsimp only at hK ⊢
      simp only [Act.put, List.setIfInBounds_toArray, List.set_cons_zero, List.set_cons_succ] at hK
      obtain ⟨h_0, h_1, h_2, h_3, h_4, h_5, h_6, h_7, h_8, h_9, h_1009, hM⟩ := hS
      refine ite_of rfl ?_
      go_simp
      refine hK.out _ _ ?_
      exact ⟨h_0, h_1, h_2, h_3, h_4, fun _ => rfl, h_6, h_7, h_8, h_9, h_1009, hM⟩
    · intro L s w9 hN hU hi hC hS K hK
      dsimp only at hK ⊢
      simp only [Act.put, List.setIfInBounds_toArray, List.set_cons_zero, List.set_cons_succ] at hK
      obtain ⟨h_0, h_1, h_2, h_3, h_4, h_5, h_6, h_7, h_8, h_9, h_1009, hM⟩ := hS
      refine ite_of rfl ?_
      have e_5 : s 5 = .pointer (some ⟨w.heap.size, 1, none⟩) := h_5 (hN.out 5 rfl)
      simp only [e_5] at hK ⊢
      obtain ⟨u1, u2, u3, u4, u5, u6, u7, u8⟩ := Blk.eight (hM.k (i := 0) rfl)
      go_simp
      refine hK.out _ _ ?_
      exact ⟨h_0, h_1, h_2, h_3, h_4, h_5, fun _ => rfl, h_7, h_8, h_9, h_1009, hM⟩
    · intro L s w9 hN hU hi hC hS K hK
      dsimp only at hK ⊢
      simp only [Act.put, List.setIfInBounds_toArray, List.set_cons_zero, List.set_cons_succ] at hK
      obtain ⟨h_0, h_1, h_2, h_3, h_4, h_5, h_6, h_7, h_8, h_9, h_1009, hM⟩ := hS
      refine ite_of rfl ?_
      have e_4 : s 4 = .string (T ++ ⟨#[58, 32]⟩) := h_4 (hN.out 4 rfl)
      simp only [e_4] at hK ⊢
      have e_6 : s 6 = .string N := h_6 (hN.out 6 rfl)
      simp only [e_6] at hK ⊢
      have z1 := ht1.out
      go_simp
      refine hK.out _ _ ?_
      exact ⟨h_0, h_1, h_2, h_3, h_4, h_5, h_6, fun _ => rfl, h_8, h_9, h_1009, hM⟩
    · intro L s w9 hN hU hi hC hS K hK
      dsimp only at hK ⊢
      simp only [Act.put, List.setIfInBounds_toArray, List.set_cons_zero, List.set_cons_succ] at hK
      obtain ⟨h_0, h_1, h_2, h_3, h_4, h_5, h_6, h_7, h_8, h_9, h_1009, hM⟩ := hS
      refine ite_of rfl ?_
      have e_0 : s 0 = .string ((⟨#[97, 114, 114, 97, 121, 32]⟩ : ByteArray) ++ (⟨#[91, 49, 46, 46]⟩ ++ NS ++ ⟨#[93]⟩) ++ ⟨#[32, 111, 102, 32]⟩) := h_0 (hN.out 0 rfl)
      simp only [e_0] at hK ⊢
      have e_7 : s 7 = .string (T ++ ⟨#[58, 32]⟩ ++ N) := h_7 (hN.out 7 rfl)
      simp only [e_7] at hK ⊢
      have z1 := ht2.out
      go_simp
      refine hK.out _ _ ?_
      exact ⟨h_0, h_1, h_2, h_3, h_4, h_5, h_6, h_7, fun _ => rfl, h_9, h_1009, hM⟩
    · intro L s w9 hN hU hi hC hS K hK
      dsimp only at hK ⊢
      simp only [Act.put, List.setIfInBounds_toArray, List.set_cons_zero, List.set_cons_succ] at hK
      obtain ⟨h_0, h_1, h_2, h_3, h_4, h_5, h_6, h_7, h_8, h_9, h_1009, hM⟩ := hS
      refine ite_of rfl ?_
      have e_8 : s 8 = .string (((⟨#[97, 114, 114, 97, 121, 32]⟩ : ByteArray) ++ (⟨#[91, 49, 46, 46]⟩ ++ NS ++ ⟨#[93]⟩) ++ ⟨#[32, 111, 102, 32]⟩) ++ (T ++ ⟨#[58, 32]⟩ ++ N)) := h_8 (hN.out 8 rfl)
      simp only [e_8] at hK ⊢
      go_simp
      refine hK.out _ _ ?_
      exact ⟨h_0, h_1, h_2, h_3, h_4, h_5, h_6, h_7, h_8, fun _ => rfl, fun h => no_t h, hM⟩
  intro L s w9 hall hS
  obtain ⟨h_0, h_1, h_2, h_3, h_4, h_5, h_6, h_7, h_8, h_9, h_1009, hM⟩ := hS
  have e9_9 := h_9 (hall 9 (by decide))
  clear hall h_0 h_1 h_2 h_3 h_4 h_5 h_6 h_7 h_8 h_9 h_1009
  have M2 := hM
  clear hM M
  obtain ⟨m1, m2, m3, m4, m5, m6, m7, m8⟩ := Blk.eight (M2.k (i := 0) rfl)
  have hy0 := HY0.out
  have hy1 := HY1.out
  have hy2 := HY2.out
  have hy3 := HY3.out
  have hy4 := HY4.out
  have hy5 := HY5.out
  go_wp2_with fail
  refine (HJ.out _ M2.bel).mono ?_
  rintro e w3 ⟨rfl, q3⟩
  have M := M2.below q3
  clear M2 q3 HJ m1 m2 m3 m4 m5 m6 m7 m8
  obtain ⟨m1, m2, m3, m4, m5, m6, m7, m8⟩ := Blk.eight (M.k (i := 0) rfl)
  cases jb with
  | false =>
    go_wp2_with fail
    refine bodyPost_ret (v := .tuple #[.string ((⟨#[97, 114, 114, 97, 121, 32]⟩ : ByteArray) ++ (⟨#[91, 49, 46, 46]⟩ ++ NS ++ ⟨#[93]⟩) ++ ⟨#[32, 111, 102, 32]⟩ ++ (T ++ ⟨#[58, 32]⟩ ++ N) ++ (⟨#[32, 58, 58, 32, 111, 117, 116, 112, 117, 116, 95, 97, 114, 114, 97, 121, 40]⟩ ++ (⟨#[91, 49, 46, 46]⟩ ++ NS ++ ⟨#[93]⟩) ++ ⟨#[41]⟩) ++ ⟨#[32, 61, 32, 91]⟩ ++ V ++ ⟨#[93, 59]⟩), .bool false]) (by simp [results, Tryz.results45, go_sem]) rfl ⟨?_, M.bel⟩
    rw [HX.out, HF.out]
    rfl
  | true =>
    by_cases hd : d = 0
    · subst hd
      by_cases hk : ak = 0
      · subst hk
        go_wp2_with fail
        refine bodyPost_ret (v := .tuple #[.string ((⟨#[97, 114, 114, 97, 121, 32]⟩ : ByteArray) ++ (⟨#[91, 49, 46, 46]⟩ ++ NS ++ ⟨#[93]⟩) ++ ⟨#[32, 111, 102, 32]⟩ ++ (T ++ ⟨#[58, 32]⟩ ++ N) ++ (⟨#[32, 58, 58, 32, 111, 117, 116, 112, 117, 116, 95, 97, 114, 114, 97, 121, 40]⟩ ++ (⟨#[91, 49, 46, 46]⟩ ++ NS ++ ⟨#[93]⟩) ++ ⟨#[41]⟩) ++ ⟨#[32, 61, 32, 91]⟩ ++ V ++ ⟨#[93, 59]⟩), .bool false]) (by simp [results, Tryz.results45, go_sem]) rfl ⟨?_, M.bel⟩
        rw [HX.out, HF.out]
        rfl
      · have hk1 := int_ne0 hk
        have HK := Lib.hid hk1
        go_wp2_with fail
        refine bodyPost_ret (v := .tuple #[.string ((⟨#[97, 114, 114, 97, 121, 32]⟩ : ByteArray) ++ (⟨#[91, 49, 46, 46]⟩ ++ NS ++ ⟨#[93]⟩) ++ ⟨#[32, 111, 102, 32]⟩ ++ (T ++ ⟨#[58, 32]⟩ ++ N) ++ (⟨#[32, 58, 58, 32, 111, 117, 116, 112, 117, 116, 95, 97, 114, 114, 97, 121, 40]⟩ ++ (⟨#[91, 49, 46, 46]⟩ ++ NS ++ ⟨#[93]⟩) ++ ⟨#[41]⟩) ++ ⟨#[32, 61, 32, 91]⟩ ++ V ++ ⟨#[93, 59]⟩), .bool false]) (by simp [results, Tryz.results45, go_sem]) rfl ⟨?_, M.bel⟩
        rw [HX.out, HF.out, HK.out]
        rfl
    · have hd1 := nat_ne0 hd
      have HD := Lib.hid (show (d == 0) = false by simp [hd])
      go_wp2_with fail
      refine bodyPost_ret (v := .tuple #[.string ((⟨#[97, 114, 114, 97, 121, 32]⟩ : ByteArray) ++ (⟨#[91, 49, 46, 46]⟩ ++ NS ++ ⟨#[93]⟩) ++ ⟨#[32, 111, 102, 32]⟩ ++ (T ++ ⟨#[58, 32]⟩ ++ N) ++ (⟨#[32, 58, 58, 32, 111, 117, 116, 112, 117, 116, 95, 97, 114, 114, 97, 121, 40]⟩ ++ (⟨#[91, 49, 46, 46]⟩ ++ NS ++ ⟨#[93]⟩) ++ ⟨#[41]⟩) ++ ⟨#[32, 61, 32, 91]⟩ ++ V ++ ⟨#[93, 59]⟩), .bool false]) (by simp [results, Tryz.results45, go_sem]) rfl ⟨?_, M.bel⟩
      rw [HX.out, HF.out, HD.out]
      rfl
set_option maxRecDepth 100000 in
set_option maxHeartbeats 40000000 in
theorem varr_pn {F : Nat → Prop} (k : Int) (hk4 : ¬ k = 4) (nm : List UInt8) (b : Bool) (dm : List (Int × Int)) (n3 : Nat) (A3 : Option Addr) (sz : Int) (vs : List Ex) (n6 : Nat) (A6 : Option Addr) (ak : Int) (w : World) (hE : Env w) (hnm : nm.length ≤ 10000) (hsz : I64 sz) (hr : ∀ y ∈ vs, RngE y)
    (ha : (layE 102).row.P F w (.slice A6 vs.length n6) vs) :
    Calls Tryz.prog 45 #[.agg #[.int .i64 k, .string ⟨nm.toArray⟩, .bool b, .slice A3 dm.length n3, .int .i64 sz, .bool false, .slice A6 vs.length n6, .int .i64 ak]] w fun e w' => e = .returned (TXV (arrS ⟨k, nm, b, dm, sz, false, vs, ak⟩)) ∧ Below w.heap.size w w' := by
  have hF := arrS_eq k nm b dm sz false vs ak
  rw [if_neg hk4, show (k == 4) = false by simp [hk4]] at hF
  have hJl := joinS_len (g := plainS) (l := vs) (fun y hy h => plain0_len (hr y hy).1 h)
  have HJ := Lib.hid (fun (w' : World) (q : Below w.heap.size w w') => vjoin_ex (f := 86) (F := F) plainS (fun _ _ => rfl) A6 n6 vs w' (Dt.below _ ha q (Nat.le_refl _)) (hE.below q) (fun y hy h => Nat.le_trans (plain0_len (hr y hy).1 h) (by decide)) (fun y hy A' c' w' hE' _ => vplain_any y.k y.n y.s y.l.length c' A' (hr y hy).1 w' hE'))
  generalize joinS (vs.map plainS) = J at *
  obtain ⟨t, jb⟩ := J
  dsimp only [TXV] at hF hJl HJ
  have HT := Lib.hid (vtruth_any b)
  have HN := Lib.hid (vname_any ⟨nm.toArray⟩)
  have HU := Lib.hid (fun (w' : World) (hE' : Env w') => vnum_any sz hsz w' hE')
  have hX : ∀ B, (Value.tuple #[.string ((⟨#[97, 114, 114, 97, 121, 32]⟩ : ByteArray) ++ (⟨#[91, 49, 46, 46]⟩ ++ ⟨(Lib.itoa sz).toArray⟩ ++ ⟨#[93]⟩) ++ ⟨#[32, 111, 102, 32]⟩ ++ (⟨(truthS b).toArray⟩ ++ ⟨#[58, 32]⟩ ++ ⟨nm.toArray⟩) ++ ⟨#[32, 61, 32, 91]⟩ ++ ⟨t.toArray⟩ ++ ⟨#[93, 59]⟩), .bool B]) = TXV (wArray ++ [32] ++ ([91, 49, 46, 46] ++ Lib.itoa sz ++ [93]) ++ [32, 111, 102, 32] ++ [] ++ truthS b ++ [58, 32] ++ nm ++ [] ++ [32, 61, 32, 91] ++ t ++ [93, 59], B) := fun B => by
    have h : ((⟨#[97, 114, 114, 97, 121, 32]⟩ : ByteArray) ++ (⟨#[91, 49, 46, 46]⟩ ++ ⟨(Lib.itoa sz).toArray⟩ ++ ⟨#[93]⟩) ++ ⟨#[32, 111, 102, 32]⟩ ++ (⟨(truthS b).toArray⟩ ++ ⟨#[58, 32]⟩ ++ ⟨nm.toArray⟩) ++ ⟨#[32, 61, 32, 91]⟩ ++ ⟨t.toArray⟩ ++ ⟨#[93, 59]⟩) = ⟨(wArray ++ [32] ++ ([91, 49, 46, 46] ++ Lib.itoa sz ++ [93]) ++ [32, 111, 102, 32] ++ [] ++ truthS b ++ [58, 32] ++ nm ++ [] ++ [32, 61, 32, 91] ++ t ++ [93, 59]).toArray⟩ := by
      apply ByteArray.ext
      simp [wOutArray, wArray]
    unfold TXV
    rw [h]
  have hUl : (⟨(Lib.itoa sz).toArray⟩ : ByteArray).size ≤ 21 := itoa_len hsz
  have hTl : (⟨(truthS b).toArray⟩ : ByteArray).size ≤ 10 := by cases b <;> decide
  have hNl := name_len hnm
  have hVl : (⟨t.toArray⟩ : ByteArray).size ≤ 600000 := hJl
  have hnb : nameB (⟨nm.toArray⟩ : ByteArray).data.toList = nameB nm := rfl
  rw [hnb] at HN
  generalize (⟨(Lib.itoa sz).toArray⟩ : ByteArray) = NS at *
  generalize (⟨(truthS b).toArray⟩ : ByteArray) = T at *
  generalize (⟨nm.toArray⟩ : ByteArray) = N at *
  generalize (⟨t.toArray⟩ : ByteArray) = V at *
  have hz0 : ¬ 9223372036854775807 < 4 + NS.size := by omega
  have hz1 : ¬ 9223372036854775807 < 4 + NS.size + 1 := by omega
  have hz2 : ¬ 9223372036854775807 < 6 + (4 + NS.size + 1) := by omega
  have hz3 : ¬ 9223372036854775807 < 6 + (4 + NS.size + 1) + 4 := by omega
  have ht0 : Hid (¬ 9223372036854775807 < T.size + 2) := by show ¬ _; omega
  have ht1 : Hid (¬ 9223372036854775807 < T.size + 2 + N.size) := by show ¬ _; omega
  have ht2 : Hid (¬ 9223372036854775807 < 6 + (4 + NS.size + 1) + 4 + (T.size + 2 + N.size)) := by show ¬ _; omega
  have HY0 : Hid (¬ 9223372036854775807 < 6 + (4 + NS.size + 1) + 4 + (T.size + 2 + N.size) + 4) := by show ¬ _; omega
  have HY1 : Hid (¬ 9223372036854775807 < 6 + (4 + NS.size + 1) + 4 + (T.size + 2 + N.size) + 4 + V.size) := by show ¬ _; omega
  have HY2 : Hid (¬ 9223372036854775807 < 6 + (4 + NS.size + 1) + 4 + (T.size + 2 + N.size) + 4 + V.size + 2) := by show ¬ _; omega
  clear hUl hTl hNl hVl hJl hnm hnb hr ha hsz
  have HF := Lib.hid hF
  have HX := Lib.hid hX
  clear hF hX
  generalize nameB nm = nb at *
  generalize dm.length = d at *
  have q0 := below_alloc1 w (.cells #[.int .i64 k, .string N, .bool b, .slice A3 d n3, .int .i64 sz, .bool false, .slice A6 vs.length n6, .int .i64 ak] 47)
  have hk5 : (k == 4) = false := by simp [hk4]
  clear hk4
  go_enter Tryz.func45, Tryz.ntmps45
  go_wp2_with fail
  refine (HU.out _ (hE.below q0)).mono ?_
  rintro e w1 ⟨rfl, q1⟩
  have M : Mem w w1 [(w.heap.size, 47, #[.int .i64 k, .string N, .bool b, .slice A3 d n3, .int .i64 sz, .bool false, .slice A6 vs.length n6, .int .i64 ak])] [] := ((Mem.start w).new 47 _).below q1
  clear q0 q1
  obtain ⟨m1, m2, m3, m4, m5, m6, m7, m8⟩ := Blk.eight (M.k (i := 0) rfl)
  go_upto_region 5 with fail
  clear m1 m2 m3 m4 m5 m6 m7 m8
  refine region_gen0 (n := 10) (frame := ?frame4) (fun L s w' => (L 0 = true → s 0 = .string ((⟨#[97, 114, 114, 97, 121, 32]⟩ : ByteArray) ++ (⟨#[91, 49, 46, 46]⟩ ++ NS ++ ⟨#[93]⟩) ++ ⟨#[32, 111, 102, 32]⟩)) ∧ (L 1 = true → s 1 = .pointer (some ⟨w.heap.size, 2, none⟩)) ∧ (L 2 = true → s 2 = .bool b) ∧ (L 3 = true → s 3 = .string T) ∧ (L 4 = true → s 4 = .string (T ++ ⟨#[58, 32]⟩)) ∧ (L 5 = true → s 5 = .pointer (some ⟨w.heap.size, 1, none⟩)) ∧ (L 6 = true → s 6 = .string N) ∧ (L 7 = true → s 7 = .string (T ++ ⟨#[58, 32]⟩ ++ N)) ∧ (L 8 = true → s 8 = .string (((⟨#[97, 114, 114, 97, 121, 32]⟩ : ByteArray) ++ (⟨#[91, 49, 46, 46]⟩ ++ NS ++ ⟨#[93]⟩) ++ ⟨#[32, 111, 102, 32]⟩) ++ (T ++ ⟨#[58, 32]⟩ ++ N))) ∧ (L 9 = true → s 9 = .string (((⟨#[97, 114, 114, 97, 121, 32]⟩ : ByteArray) ++ (⟨#[91, 49, 46, 46]⟩ ++ NS ++ ⟨#[93]⟩) ++ ⟨#[32, 111, 102, 32]⟩) ++ (T ++ ⟨#[58, 32]⟩ ++ N))) ∧ (L 9 = false → s 9 = .string ((⟨#[97, 114, 114, 97, 121, 32]⟩ : ByteArray) ++ (⟨#[91, 49, 46, 46]⟩ ++ NS ++ ⟨#[93]⟩) ++ ⟨#[32, 111, 102, 32]⟩)) ∧ Mem w w' [(w.heap.size, 47, #[.int .i64 k, .string N, .bool b, .slice A3 d n3, .int .i64 sz, .bool false, .slice A6 vs.length n6, .int .i64 ak])] []) (by kernel_rfl) (by kernel_rfl) (by kernel_rfl) rfl ?_ ?_ ?_ ?_
  case refine_1 => exact ⟨fun h => no_f h, fun h => no_f h, fun h => no_f h, fun h => no_f h, fun h => no_f h, fun h => no_f h, fun h => no_f h, fun h => no_f h, fun h => no_f h, fun h => no_f h, fun _ => rfl, (M).drew⟩
  case refine_2 =>
    intro s
    simp only [fr, Act.put, List.append_eq, List.cons_append, List.nil_append, List.setIfInBounds_toArray, List.set_cons_zero, List.set_cons_succ, Nat.reduceAdd]
    rfl
  case refine_3 =>
    refine Steps.cons 0 (j := 1) rfl ?_ (Steps.cons 1 (j := 2) rfl ?_ (Steps.cons 2 (j := 3) rfl ?_ (Steps.cons 3 (j := 4) rfl ?_ (Steps.cons 4 (j := 5) rfl ?_ (Steps.cons 5 (j := 6) rfl ?_ (Steps.cons 6 (j := 7) rfl ?_ (Steps.cons 7 (j := 8) rfl ?_ (Steps.cons 8 (j := 9) rfl ?_ (Steps.cons 9 (j := 10) rfl ?_ Steps.nil)))))))))
    · intro L s w9 hN hU hi hC hS K hK
      dsimp only at hK ⊢
      simp only [Act.put, List.setIfInBounds_toArray, List.set_cons_zero, List.set_cons_succ] at hK
      obtain ⟨h_0, h_1, h_2, h_3, h_4, h_5, h_6, h_7, h_8, h_9, h_1009, hM⟩ := hS
      refine ite_of rfl ?_
      have e_z := h_1009 (Shut.no hC 9 8 rfl rfl (hU.out 8 _ rfl rfl))
      simp only [e_z] at hK ⊢
      go_simp
      refine hK.out _ _ ?_
      exact ⟨fun _ => rfl, h_1, h_2, h_3, h_4, h_5, h_6, h_7, h_8, h_9, h_1009, hM⟩
    · intro L s w9 hN hU hi hC hS K hK
      dsimp only at hK ⊢
      simp only [Act.put, List.setIfInBounds_toArray, List.set_cons_zero, List.set_cons_succ] at hK
      obtain ⟨h_0, h_1, h_2, h_3, h_4, h_5, h_6, h_7, h_8, h_9, h_1009, hM⟩ := hS
      refine ite_of rfl ?_
      go_simp
      refine hK.out _ _ ?_
      exact ⟨h_0, fun _ => rfl, h_2, h_3, h_4, h_5, h_6, h_7, h_8, h_9, h_1009, hM⟩
    · intro L s w9 hN hU hi hC hS K hK
      dsimp only at hK ⊢
      simp only [Act.put, List.setIfInBounds_toArray, List.set_cons_zero, List.set_cons_succ] at hK
      obtain ⟨h_0, h_1, h_2, h_3, h_4, h_5, h_6, h_7, h_8, h_9, h_1009, hM⟩ := hS
      refine ite_of rfl ?_
      have e_1 : s 1 = .pointer (some ⟨w.heap.size, 2, none⟩) := h_1 (hN.out 1 rfl)
      simp only [e_1] at hK ⊢
      obtain ⟨u1, u2, u3, u4, u5, u6, u7, u8⟩ := Blk.eight (hM.k (i := 0) rfl)
      go_simp
      refine hK.out _ _ ?_
      exact ⟨h_0, h_1, fun _ => rfl, h_3, h_4, h_5, h_6, h_7, h_8, h_9, h_1009, hM⟩
    · intro L s w9 hN hU hi hC hS K hK
      dsimp only at hK ⊢
      simp only [Act.put, List.setIfInBounds_toArray, List.set_cons_zero, List.set_cons_succ] at hK
      obtain ⟨h_0, h_1, h_2, h_3, h_4, h_5, h_6, h_7, h_8, h_9, h_1009, hM⟩ := hS
      refine ite_of rfl ?_
      have e_2 : s 2 = .bool b := h_2 (hN.out 2 rfl)
      simp only [e_2] at hK ⊢
      go_simp
      go_at_call 87
      refine (HT.out _).mono ?_
      rintro e9 w10 ⟨rfl, q⟩
      refine hK.out _ _ ?_
      exact ⟨h_0, h_1, h_2, fun _ => rfl, h_4, h_5, h_6, h_7, h_8, h_9, h_1009, hM.below q⟩
    · intro L s w9 hN hU hi hC hS K hK
      dsimp only at hK ⊢
      simp only [Act.put, List.setIfInBounds_toArray, List.set_cons_zero, List.set_cons_succ] at hK
      obtain ⟨h_0, h_1, h_2, h_3, h_4, h_5, h_6, h_7, h_8, h_9, h_1009, hM⟩ := hS
      refine ite_of rfl ?_
      have e_3 : s 3 = .string T := h_3 (hN.out 3 rfl)
      simp only [e_3] at hK ⊢
      have z1 := ht0.out
      go_simp
      refine hK.out _ _ ?_
      exact ⟨h_0, h_1, h_2, h_3, fun _ => rfl, h_5, h_6, h_7, h_8, h_9, h_1009, hM⟩
    · intro L s w9 hN hU hi hC hS K hK
      dsimp only at hK ⊢
      simp only [Act.put, List.setIfInBounds_toArray, List.set_cons_zero, List.set_cons_succ] at hK
      obtain ⟨h_0, h_1, h_2, h_3, h_4, h_5, h_6, h_7, h_8, h_9, h_1009, hM⟩ := hS
      refine ite_of rfl ?_
      go_simp
      refine hK.out _ _ ?_
      exact ⟨h_0, h_1, h_2, h_3, h_4, fun _ => rfl, h_6, h_7, h_8, h_9, h_1009, hM⟩
    · intro L s w9 hN hU hi hC hS K hK
      dsimp only at hK ⊢
      simp only [Act.put, List.setIfInBounds_toArray, List.set_cons_zero, List.set_cons_succ] at hK
      obtain ⟨h_0, h_1, h_2, h_3, h_4, h_5, h_6, h_7, h_8, h_9, h_1009, hM⟩ := hS
      refine ite_of rfl ?_
      have e_5 : s 5 = .pointer (some ⟨w.heap.size, 1, none⟩) := h_5 (hN.out 5 rfl)
      simp only [e_5] at hK ⊢
      obtain ⟨u1, u2, u3, u4, u5, u6, u7, u8⟩ := Blk.eight (hM.k (i := 0) rfl)
      go_simp
      refine hK.out _ _ ?_
      exact ⟨h_0, h_1, h_2, h_3, h_4, h_5, fun _ => rfl, h_7, h_8, h_9, h_1009, hM⟩
    · intro L s w9 hN hU hi hC hS K hK
      dsimp only at hK ⊢
      simp only [Act.put, List.setIfInBounds_toArray, List.set_cons_zero, List.set_cons_succ] at hK
      obtain ⟨h_0, h_1, h_2, h_3, h_4, h_5, h_6, h_7, h_8, h_9, h_1009, hM⟩ := hS
      refine ite_of rfl ?_
      have e_4 : s 4 = .string (T ++ ⟨#[58, 32]⟩) := h_4 (hN.out 4 rfl)
      simp only [e_4] at hK ⊢
      have e_6 : s 6 = .string N := h_6 (hN.out 6 rfl)
      simp only [e_6] at hK ⊢
      have z1 := ht1.out
      go_simp
      refine hK.out _ _ ?_
      exact ⟨h_0, h_1, h_2, h_3, h_4, h_5, h_6, fun _ => rfl, h_8, h_9, h_1009, hM⟩
    · intro L s w9 hN hU hi hC hS K hK
      dsimp only at hK ⊢
      simp only [Act.put, List.setIfInBounds_toArray, List.set_cons_zero, List.set_cons_succ] at hK
      obtain ⟨h_0, h_1, h_2, h_3, h_4, h_5, h_6, h_7, h_8, h_9, h_1009, hM⟩ := hS
      refine ite_of rfl ?_
      have e_0 : s 0 = .string ((⟨#[97, 114, 114, 97, 121, 32]⟩ : ByteArray) ++ (⟨#[91, 49, 46, 46]⟩ ++ NS ++ ⟨#[93]⟩) ++ ⟨#[32, 111, 102, 32]⟩) := h_0 (hN.out 0 rfl)
      simp only [e_0] at hK ⊢
      have e_7 : s 7 = .string (T ++ ⟨#[58, 32]⟩ ++ N) := h_7 (hN.out 7 rfl)
      simp only [e_7] at hK ⊢
      have z1 := ht2.out
      go_simp
      refine hK.out _ _ ?_
      exact ⟨h_0, h_1, h_2, h_3, h_4, h_5, h_6, h_7, fun _ => rfl, h_9, h_1009, hM⟩
    · intro L s w9 hN hU hi hC hS K hK
      dsimp only at hK ⊢
      simp only [Act.put, List.setIfInBounds_toArray, List.set_cons_zero, List.set_cons_succ] at hK
      obtain ⟨h_0, h_1, h_2, h_3, h_4, h_5, h_6, h_7, h_8, h_9, h_1009, hM⟩ := hS
      refine ite_of rfl ?_
      have e_8 : s 8 = .string (((⟨#[97, 114, 114, 97, 121, 32]⟩ : ByteArray) ++ (⟨#[91, 49, 46, 46]⟩ ++ NS ++ ⟨#[93]⟩) ++ ⟨#[32, 111, 102, 32]⟩) ++ (T ++ ⟨#[58, 32]⟩ ++ N)) := h_8 (hN.out 8 rfl)
      simp only [e_8] at hK ⊢
      go_simp
      refine hK.out _ _ ?_
      exact ⟨h_0, h_1, h_2, h_3, h_4, h_5, h_6, h_7, h_8, fun _ => rfl, fun h => no_t h, hM⟩
  intro L s w9 hall hS
  obtain ⟨h_0, h_1, h_2, h_3, h_4, h_5, h_6, h_7, h_8, h_9, h_1009, hM⟩ := hS
  have e9_9 := h_9 (hall 9 (by decide))
  clear hall h_0 h_1 h_2 h_3 h_4 h_5 h_6 h_7 h_8 h_9 h_1009
  have M2 := hM
  clear hM M
  obtain ⟨m1, m2, m3, m4, m5, m6, m7, m8⟩ := Blk.eight (M2.k (i := 0) rfl)
  have hy0 := HY0.out
  have hy1 := HY1.out
  have hy2 := HY2.out
  go_wp2_with fail
  refine (HJ.out _ M2.bel).mono ?_
  rintro e w3 ⟨rfl, q3⟩
  have M := M2.below q3
  clear M2 q3 HJ m1 m2 m3 m4 m5 m6 m7 m8
  obtain ⟨m1, m2, m3, m4, m5, m6, m7, m8⟩ := Blk.eight (M.k (i := 0) rfl)
  cases jb with
  | false =>
    go_wp2_with fail
    refine bodyPost_ret (v := .tuple #[.string ((⟨#[97, 114, 114, 97, 121, 32]⟩ : ByteArray) ++ (⟨#[91, 49, 46, 46]⟩ ++ NS ++ ⟨#[93]⟩) ++ ⟨#[32, 111, 102, 32]⟩ ++ (T ++ ⟨#[58, 32]⟩ ++ N) ++ ⟨#[32, 61, 32, 91]⟩ ++ V ++ ⟨#[93, 59]⟩), .bool false]) (by simp [results, Tryz.results45, go_sem]) rfl ⟨?_, M.bel⟩
    rw [HX.out, HF.out]
    rfl
  | true =>
    by_cases hd : d = 0
    · subst hd
      by_cases hk : ak = 0
      · subst hk
        go_wp2_with fail
        refine (HN.out _ (hE.below M.bel)).mono ?_
        rintro e w5 ⟨rfl, q5⟩
        go_wp2_with fail
        refine bodyPost_ret (v := .tuple #[.string ((⟨#[97, 114, 114, 97, 121, 32]⟩ : ByteArray) ++ (⟨#[91, 49, 46, 46]⟩ ++ NS ++ ⟨#[93]⟩) ++ ⟨#[32, 111, 102, 32]⟩ ++ (T ++ ⟨#[58, 32]⟩ ++ N) ++ ⟨#[32, 61, 32, 91]⟩ ++ V ++ ⟨#[93, 59]⟩), .bool nb]) (by simp [results, Tryz.results45, go_sem]) rfl ⟨?_, (M.below q5).bel⟩
        rw [HX.out, HF.out]
        rfl
      · have hk1 := int_ne0 hk
        have HK := Lib.hid hk1
        go_wp2_with fail
        refine bodyPost_ret (v := .tuple #[.string ((⟨#[97, 114, 114, 97, 121, 32]⟩ : ByteArray) ++ (⟨#[91, 49, 46, 46]⟩ ++ NS ++ ⟨#[93]⟩) ++ ⟨#[32, 111, 102, 32]⟩ ++ (T ++ ⟨#[58, 32]⟩ ++ N) ++ ⟨#[32, 61, 32, 91]⟩ ++ V ++ ⟨#[93, 59]⟩), .bool false]) (by simp [results, Tryz.results45, go_sem]) rfl ⟨?_, M.bel⟩
        rw [HX.out, HF.out, HK.out]
        rfl
    · have hd1 := nat_ne0 hd
      have HD := Lib.hid (show (d == 0) = false by simp [hd])
      go_wp2_with fail
      refine bodyPost_ret (v := .tuple #[.string ((⟨#[97, 114, 114, 97, 121, 32]⟩ : ByteArray) ++ (⟨#[91, 49, 46, 46]⟩ ++ NS ++ ⟨#[93]⟩) ++ ⟨#[32, 111, 102, 32]⟩ ++ (T ++ ⟨#[58, 32]⟩ ++ N) ++ ⟨#[32, 61, 32, 91]⟩ ++ V ++ ⟨#[93, 59]⟩), .bool false]) (by simp [results, Tryz.results45, go_sem]) rfl ⟨?_, M.bel⟩
      rw [HX.out, HF.out, HD.out]
      rfl
theorem varr_any {F : Nat → Prop} (k : Int) (nm : List UInt8) (b : Bool) (dm : List (Int × Int)) (n3 : Nat) (A3 : Option Addr) (sz : Int) (o : Bool) (vs : List Ex) (n6 : Nat) (A6 : Option Addr) (ak : Int) (w : World) (hE : Env w) (hnm : nm.length ≤ 10000) (hsz : I64 sz) (hr : ∀ y ∈ vs, RngE y)
    (ha : (layE 102).row.P F w (.slice A6 vs.length n6) vs) :
    Calls Tryz.prog 45 #[.agg #[.int .i64 k, .string ⟨nm.toArray⟩, .bool b, .slice A3 dm.length n3, .int .i64 sz, .bool o, .slice A6 vs.length n6, .int .i64 ak]] w fun e w' => e = .returned (TXV (arrS ⟨k, nm, b, dm, sz, o, vs, ak⟩)) ∧ Below w.heap.size w w' := by
  by_cases hk : k = 4
  · subst hk
    cases o with
    | true => exact varr_vo nm b dm n3 A3 sz vs n6 A6 ak w hE hnm hsz hr ha
    | false => exact varr_vn nm b dm n3 A3 sz vs n6 A6 ak w hE hnm hsz hr ha
  · cases o with
    | true => exact varr_po k hk nm b dm n3 A3 sz vs n6 A6 ak w hE hnm hsz hr ha
    | false => exact varr_pn k hk nm b dm n3 A3 sz vs n6 A6 ak w hE hnm hsz hr ha
end Go.Proofs.YtpfhgkielakmoaaGreatDoor

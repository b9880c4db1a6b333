/-
  Contracts of array, goal.
-/
import Derived.Test.YtpfhgkielakmoaaGreatDoorDab
set_option linter.unusedSimpArgs false
set_option linter.unusedVariables false
namespace Go.Proofs.YtpfhgkielakmoaaGreatDoor
open Go.RowKit

theorem taken1N {g n N : Nat} {l : List Tok} {w : World} (s : ByteArray) (h : Ps w g l n) (hN : N = w.heap.size) :
    Calls Tryz.prog 42 #[.pointer (some ⟨g, 0, none⟩), .slice (some ⟨N, 0, none⟩) 1 1] (w.alloc (.cells #[.string s] 9)) (PPost g n w VU (takeP s.data.toList l)) := by
  subst hN
  exact taken1 s h
theorem takenN {g n N : Nat} {l : List Tok} {w : World} (ss : List ByteArray) (h : Ps w g l n) (hlen : ss.length ≤ 100) (hN : N = w.heap.size) :
    Calls Tryz.prog 42 #[.pointer (some ⟨g, 0, none⟩), .slice (some ⟨N, 0, none⟩) ss.length ss.length] (w.alloc (.cells (ss.map Value.string).toArray 9)) (PPost g n w VU (takesP (ss.map (·.data.toList)) l)) := by
  subst hN
  exact taken ss h hlen
theorem pbind_ok {α β : Type} {f : Pm α} {g : α → Pm β} {l r : List Tok} {x : α} (h : f l = .ok x r) : pbind f g l = g x r := by
  unfold pbind
  rw [h]
theorem pbind_bad {α β : Type} {f : Pm α} {g : α → Pm β} {l r : List Tok} {c : Int} (h : f l = .bad c r) : pbind f g l = .bad c r := by
  unfold pbind
  rw [h]
theorem pbind_ok2 {α β γ : Type} {f : Pm α} {g : α → Pm β} {k : β → Pm γ} {l r : List Tok} {x : α} (h : f l = .ok x r) : pbind (pbind f g) k l = pbind (g x) k r := by
  unfold pbind
  rw [h]
theorem pbind_bad2 {α β γ : Type} {f : Pm α} {g : α → Pm β} {k : β → Pm γ} {l r : List Tok} {c : Int} (h : f l = .bad c r) : pbind (pbind f g) k l = .bad c r := by
  unfold pbind
  rw [h]

set_option maxRecDepth 100000 in
set_option maxHeartbeats 40000000 in
theorem array_any {g n : Nat} {l : List Tok} {w : World} (h : Ps w g l n) :
  Calls Tryz.prog 79 #[.pointer (some ⟨g, 0, none⟩)] w (PPost g n w (VIt w.heap.size) (arrayP l)) := by
  have hmf : ∀ (fn : Fn) (first cap : Array Value) (w : World), (Instr.makeFunc fn first cap).run Tryz.prog w = .ok (.func fn first cap) w := fun _ _ _ _ => rfl
  have T0 := two_start h ⟨3, [], false, [], 0, false, [], 0⟩ rfl rfl
  go_enter Tryz.func79, Tryz.ntmps79
  go_wp2_with fail
  refine (taken1N ⟨#[91]⟩ T0.ps (by simp)).mono ?_
  rintro e w1 ⟨q1, ⟨u1, l1, e1, h1, v1, rfl, rfl⟩ | ⟨c1, l1, e1, rfl⟩⟩
  · have H1 := Lib.hid ((Eq.refl (arrayP l)).trans (pbind_ok (show takeP [91] l = .ok u1 l1 from e1)))
    have T1 := T0.call q1 h1
    clear e1 h1 q1 T0
    go_wp2_with fail
    refine (exact_any 1 T1.ps).mono ?_
    rintro e w3 ⟨q3, ⟨u3, l3, e3, h3, v3, rfl, rfl⟩ | ⟨c3, l3, e3, rfl⟩⟩
    · have H3 := Lib.hid (H1.out.trans (pbind_ok (show exactP 1 l1 = .ok u3 l3 from e3)))
      have T3 := T1.call q3 h3
      clear e3 h3 q3 T1
      go_wp2_with fail
      refine (taken1N ⟨#[46, 46]⟩ T3.ps (by simp)).mono ?_
      rintro e w5 ⟨q5, ⟨u5, l5, e5, h5, v5, rfl, rfl⟩ | ⟨c5, l5, e5, rfl⟩⟩
      · have H5 := Lib.hid (H3.out.trans (pbind_ok (show takeP [46, 46] l3 = .ok u5 l5 from e5)))
        have T5 := T3.call q5 h5
        clear e5 h5 q5 T3
        go_wp2_with fail
        refine (number_any T5.ps).mono ?_
        rintro e w7 ⟨q7, ⟨u7, l7, e7, h7, v7, rfl, rfl⟩ | ⟨c7, l7, e7, rfl⟩⟩
        · have H7 := Lib.hid (H5.out.trans (pbind_ok (show numberP l5 = .ok u7 l7 from e7)))
          have T7 := T5.call q7 h7
          clear e7 h7 q7 T5
          have k8 : w7.cell? ⟨w.heap.size + 1, 4, none⟩ = some (.int .i64 0) := T7.cell 4
          have f8 := T7.it.frozen 4
          have T8 := T7.size u7
          go_wp2_with fail
          refine (takenN [⟨#[93]⟩, ⟨wOf.toArray⟩] T8.ps (by decide) (by simp)).mono ?_
          rintro e w10 ⟨q10, ⟨u10, l10, e10, h10, v10, rfl, rfl⟩ | ⟨c10, l10, e10, rfl⟩⟩
          · have H10 := Lib.hid (H7.out.trans (pbind_ok (show takesP [[93], wOf] l7 = .ok u10 l10 from e10)))
            have T10 := T8.call q10 h10
            clear e10 h10 q10 T8 k8 f8 T7
            go_wp2_with fail
            refine (may_any ⟨wVar.toArray⟩ T10.ps).mono ?_
            rintro e w12 ⟨b12, l12, e12, rfl, h12, q12⟩
            have T12 := T10.call q12 h12
            clear h12 q12 T10
            cases b12 with
            | true =>
              have h12 := H10.out.trans (pbind_ok (show mayP wVar l10 = .ok true l12 from e12))
              simp only [if_true] at h12
              have H12 := Lib.hid h12
              clear e12 h12
              have k13 : w12.cell? ⟨w.heap.size + 1, 0, none⟩ = some (.int .i64 3) := T12.cell 0
              have f13 := T12.it.frozen 0
              have T13 := T12.kind 4
              go_wp2_with fail
              refine (truth_any T13.ps).mono ?_
              rintro e w15 ⟨q15, ⟨u15, l15, e15, h15, v15, rfl, rfl⟩ | ⟨c15, l15, e15, rfl⟩⟩
              · have H15 := Lib.hid (H12.out.trans (pbind_ok (show truthP l12 = .ok u15 l15 from e15)))
                have T15 := T13.call q15 h15
                clear e15 h15 q15 T13 k13 f13 T12
                have k16 : w15.cell? ⟨w.heap.size + 1, 2, none⟩ = some (.bool false) := T15.cell 2
                have f16 := T15.it.frozen 2
                have T16 := T15.bool u15
                go_wp2_with fail
                refine (taken1N ⟨#[58]⟩ T16.ps (by simp)).mono ?_
                rintro e w18 ⟨q18, ⟨u18, l18, e18, h18, v18, rfl, rfl⟩ | ⟨c18, l18, e18, rfl⟩⟩
                · have H18 := Lib.hid (H15.out.trans (pbind_ok (show takeP [58] l15 = .ok u18 l18 from e18)))
                  have T18 := T16.call q18 h18
                  clear e18 h18 q18 T16 k16 f16 T15
                  go_wp2_with fail
                  refine (name_any T18.ps).mono ?_
                  rintro e w20 ⟨q20, ⟨u20, l20, e20, h20, v20, rfl, rfl⟩ | ⟨c20, l20, e20, rfl⟩⟩
                  · have H20 := Lib.hid (H18.out.trans (pbind_ok (show nameP l18 = .ok u20 l20 from e20)))
                    have T20 := T18.call q20 h20
                    clear e20 h20 q20 T18
                    have k21 : w20.cell? ⟨w.heap.size + 1, 1, none⟩ = some (.string ⟨#[]⟩) := T20.cell 1
                    have f21 := T20.it.frozen 1
                    have T21 := T20.name u20
                    have k22 : (w20.setCell ⟨w.heap.size + 1, 1, none⟩ (.string ⟨u20.toArray⟩)).cell? ⟨w.heap.size + 1, 0, none⟩ = some (.int .i64 4) := T21.cell 0
                    go_wp2_with fail
                    refine (may_any ⟨#[58, 58]⟩ T21.ps).mono ?_
                    rintro e w24 ⟨b24, l24, e24, rfl, h24, q24⟩
                    have T24 := T21.call q24 h24
                    clear h24 q24 T21 k21 f21 T20 k22
                    cases b24 with
                    | true =>
                      have h24 := H20.out.trans (pbind_ok (show mayP [58, 58] l20 = .ok true l24 from e24))
                      simp only [if_true] at h24
                      have H24 := Lib.hid h24
                      clear e24 h24
                      go_wp2_with fail
                      refine (takenN [⟨wOutArray.toArray⟩, ⟨#[40]⟩, ⟨#[91]⟩] T24.ps (by decide) (by simp)).mono ?_
                      rintro e w26 ⟨q26, ⟨u26, l26, e26, h26, v26, rfl, rfl⟩ | ⟨c26, l26, e26, rfl⟩⟩
                      · have H26 := Lib.hid (H24.out.trans (pbind_ok2 (show takesP [wOutArray, [40], [91]] l24 = .ok u26 l26 from e26)))
                        have T26 := T24.call q26 h26
                        clear e26 h26 q26 T24
                        go_wp2_with fail
                        refine (exact_any 1 T26.ps).mono ?_
                        rintro e w28 ⟨q28, ⟨u28, l28, e28, h28, v28, rfl, rfl⟩ | ⟨c28, l28, e28, rfl⟩⟩
                        · have H28 := Lib.hid (H26.out.trans (pbind_ok2 (show exactP 1 l26 = .ok u28 l28 from e28)))
                          have T28 := T26.call q28 h28
                          clear e28 h28 q28 T26
                          go_wp2_with fail
                          refine (taken1N ⟨#[46, 46]⟩ T28.ps (by simp)).mono ?_
                          rintro e w30 ⟨q30, ⟨u30, l30, e30, h30, v30, rfl, rfl⟩ | ⟨c30, l30, e30, rfl⟩⟩
                          · have H30 := Lib.hid (H28.out.trans (pbind_ok2 (show takeP [46, 46] l28 = .ok u30 l30 from e30)))
                            have T30 := T28.call q30 h30
                            clear e30 h30 q30 T28
                            have k31 : w30.cell? ⟨w.heap.size + 1, 4, none⟩ = some (.int .i64 u7) := T30.cell 4
                            go_wp2_with fail
                            refine (exact_any u7 T30.ps).mono ?_
                            rintro e w33 ⟨q33, ⟨u33, l33, e33, h33, v33, rfl, rfl⟩ | ⟨c33, l33, e33, rfl⟩⟩
                            · have H33 := Lib.hid (H30.out.trans (pbind_ok2 (show exactP u7 l30 = .ok u33 l33 from e33)))
                              have T33 := T30.call q33 h33
                              clear e33 h33 q33 T30 k31
                              go_wp2_with fail
                              refine (takenN [⟨#[93]⟩, ⟨#[41]⟩] T33.ps (by decide) (by simp)).mono ?_
                              rintro e w35 ⟨q35, ⟨u35, l35, e35, h35, v35, rfl, rfl⟩ | ⟨c35, l35, e35, rfl⟩⟩
                              · have H35 := Lib.hid (H33.out.trans (pbind_ok (show takesP [[93], [41]] l33 = .ok u35 l35 from e35)))
                                have T35 := T33.call q35 h35
                                clear e35 h35 q35 T33
                                have k36 : w35.cell? ⟨w.heap.size + 1, 5, none⟩ = some (.bool false) := T35.cell 5
                                have f36 := T35.it.frozen 5
                                have T36 := T35.out
                                go_wp2_with fail
                                refine (takenN [⟨#[61]⟩, ⟨#[91]⟩] T36.ps (by decide) (by simp)).mono ?_
                                rintro e w38 ⟨q38, ⟨u38, l38, e38, h38, v38, rfl, rfl⟩ | ⟨c38, l38, e38, rfl⟩⟩
                                · have H38 := Lib.hid (H35.out.trans (pbind_ok (show takesP [[61], [91]] l35 = .ok u38 l38 from e38)))
                                  have T38 := T36.call q38 h38
                                  clear e38 h38 q38 T36 k36 f36 T35
                                  go_wp2_with fail
                                  refine (plains_any ⟨#[93]⟩ T38.ps).mono ?_
                                  rintro e w40 ⟨q40, ⟨u40, l40, e40, h40, v40, rfl, hr40⟩ | ⟨c40, l40, e40, rfl⟩⟩
                                  · have H40 := Lib.hid (H38.out.trans (pbind_ok (show exprsP [93] plainP l38 = .ok u40 l40 from e40)))
                                    obtain ⟨z40a, z40b, z40c⟩ := T38.lt
                                    have T40 := T38.call q40 h40
                                    clear e40 h40 q40
                                    obtain ⟨A40, d40, rfl⟩ := Lay.row_len hr40
                                    have k41 : w40.cell? ⟨w.heap.size + 1, 6, none⟩ = some (.slice none 0 0) := T40.cell 6
                                    have f41 := T40.it.frozen 6
                                    have T41 := T40.put ((layE 102).row.mono (T40.fr z40c z40a z40b) hr40)
                                    obtain ⟨k420, k421, k422, k423, k424, k425, k426, k427⟩ := Blk.eight T41.it
                                    go_wp2_with ((with_reducible show wpList _ _ _ (Oper.mk none (Op.store _ _ _) _ _ _ _ :: _) _ _); refine wp_put (o := ⟨none, .store _ _ _, _, _, _, _⟩) _ _ T41.res rfl rfl rfl rfl info_it rfl rfl ?_; intro w20 b20 q20)
                                    obtain ⟨r0, r1, r2, r3, r4, r5, r6, r7⟩ := b20.eight
                                    refine bodyPost_ret (v := .agg (icells _ _ _)) (by simp [results, Tryz.results79, go_sem, r0, r1, r2, r3, r4, r5, r6, r7]; rfl) rfl (T41.done q20 ?_ rfl)
                                    exact H40.out
                                  · have e40' := Lib.hid (show exprsP [93] plainP l38 = .bad c40 l40 from e40)
                                    clear e40
                                    go_wp2_with fail
                                    refine ⟨rfl, grown_tr T38.gr q40, Or.inr ⟨c40, l40, ?_, rfl⟩⟩
                                    exact H38.out.trans (pbind_bad e40'.out)
                                · have e38' := Lib.hid (show takesP [[61], [91]] l35 = .bad c38 l38 from e38)
                                  clear e38
                                  go_wp2_with fail
                                  refine ⟨rfl, grown_tr T36.gr q38, Or.inr ⟨c38, l38, ?_, rfl⟩⟩
                                  exact H35.out.trans (pbind_bad e38'.out)
                              · have e35' := Lib.hid (show takesP [[93], [41]] l33 = .bad c35 l35 from e35)
                                clear e35
                                go_wp2_with fail
                                refine ⟨rfl, grown_tr T33.gr q35, Or.inr ⟨c35, l35, ?_, rfl⟩⟩
                                exact H33.out.trans (pbind_bad e35'.out)
                            · have e33' := Lib.hid (show exactP u7 l30 = .bad c33 l33 from e33)
                              clear e33
                              go_wp2_with fail
                              refine ⟨rfl, grown_tr T30.gr q33, Or.inr ⟨c33, l33, ?_, rfl⟩⟩
                              exact H30.out.trans (pbind_bad2 e33'.out)
                          · have e30' := Lib.hid (show takeP [46, 46] l28 = .bad c30 l30 from e30)
                            clear e30
                            go_wp2_with fail
                            refine ⟨rfl, grown_tr T28.gr q30, Or.inr ⟨c30, l30, ?_, rfl⟩⟩
                            exact H28.out.trans (pbind_bad2 e30'.out)
                        · have e28' := Lib.hid (show exactP 1 l26 = .bad c28 l28 from e28)
                          clear e28
                          go_wp2_with fail
                          refine ⟨rfl, grown_tr T26.gr q28, Or.inr ⟨c28, l28, ?_, rfl⟩⟩
                          exact H26.out.trans (pbind_bad2 e28'.out)
                      · have e26' := Lib.hid (show takesP [wOutArray, [40], [91]] l24 = .bad c26 l26 from e26)
                        clear e26
                        go_wp2_with fail
                        refine ⟨rfl, grown_tr T24.gr q26, Or.inr ⟨c26, l26, ?_, rfl⟩⟩
                        exact H24.out.trans (pbind_bad2 e26'.out)
                    | false =>
                      have h24 := H20.out.trans (pbind_ok (show mayP [58, 58] l20 = .ok false l24 from e24))
                      simp only [Bool.false_eq_true, if_false] at h24
                      have H24 := Lib.hid h24
                      clear e24 h24
                      have h43 := H24.out.trans (pbind_ok (pret_eq () l24))
                      have H43 := Lib.hid h43
                      clear h43
                      go_wp2_with fail
                      refine (takenN [⟨#[61]⟩, ⟨#[91]⟩] T24.ps (by decide) (by simp)).mono ?_
                      rintro e w45 ⟨q45, ⟨u45, l45, e45, h45, v45, rfl, rfl⟩ | ⟨c45, l45, e45, rfl⟩⟩
                      · have H45 := Lib.hid (H43.out.trans (pbind_ok (show takesP [[61], [91]] l24 = .ok u45 l45 from e45)))
                        have T45 := T24.call q45 h45
                        clear e45 h45 q45 T24
                        go_wp2_with fail
                        refine (plains_any ⟨#[93]⟩ T45.ps).mono ?_
                        rintro e w47 ⟨q47, ⟨u47, l47, e47, h47, v47, rfl, hr47⟩ | ⟨c47, l47, e47, rfl⟩⟩
                        · have H47 := Lib.hid (H45.out.trans (pbind_ok (show exprsP [93] plainP l45 = .ok u47 l47 from e47)))
                          obtain ⟨z47a, z47b, z47c⟩ := T45.lt
                          have T47 := T45.call q47 h47
                          clear e47 h47 q47
                          obtain ⟨A47, d47, rfl⟩ := Lay.row_len hr47
                          have k48 : w47.cell? ⟨w.heap.size + 1, 6, none⟩ = some (.slice none 0 0) := T47.cell 6
                          have f48 := T47.it.frozen 6
                          have T48 := T47.put ((layE 102).row.mono (T47.fr z47c z47a z47b) hr47)
                          obtain ⟨k490, k491, k492, k493, k494, k495, k496, k497⟩ := Blk.eight T48.it
                          go_wp2_with ((with_reducible show wpList _ _ _ (Oper.mk none (Op.store _ _ _) _ _ _ _ :: _) _ _); refine wp_put (o := ⟨none, .store _ _ _, _, _, _, _⟩) _ _ T48.res rfl rfl rfl rfl info_it rfl rfl ?_; intro w20 b20 q20)
                          obtain ⟨r0, r1, r2, r3, r4, r5, r6, r7⟩ := b20.eight
                          refine bodyPost_ret (v := .agg (icells _ _ _)) (by simp [results, Tryz.results79, go_sem, r0, r1, r2, r3, r4, r5, r6, r7]; rfl) rfl (T48.done q20 ?_ rfl)
                          exact H47.out
                        · have e47' := Lib.hid (show exprsP [93] plainP l45 = .bad c47 l47 from e47)
                          clear e47
                          go_wp2_with fail
                          refine ⟨rfl, grown_tr T45.gr q47, Or.inr ⟨c47, l47, ?_, rfl⟩⟩
                          exact H45.out.trans (pbind_bad e47'.out)
                      · have e45' := Lib.hid (show takesP [[61], [91]] l24 = .bad c45 l45 from e45)
                        clear e45
                        go_wp2_with fail
                        refine ⟨rfl, grown_tr T24.gr q45, Or.inr ⟨c45, l45, ?_, rfl⟩⟩
                        exact H43.out.trans (pbind_bad e45'.out)
                  · have e20' := Lib.hid (show nameP l18 = .bad c20 l20 from e20)
                    clear e20
                    go_wp2_with fail
                    refine ⟨rfl, grown_tr T18.gr q20, Or.inr ⟨c20, l20, ?_, rfl⟩⟩
                    exact H18.out.trans (pbind_bad e20'.out)
                · have e18' := Lib.hid (show takeP [58] l15 = .bad c18 l18 from e18)
                  clear e18
                  go_wp2_with fail
                  refine ⟨rfl, grown_tr T16.gr q18, Or.inr ⟨c18, l18, ?_, rfl⟩⟩
                  exact H15.out.trans (pbind_bad e18'.out)
              · have e15' := Lib.hid (show truthP l12 = .bad c15 l15 from e15)
                clear e15
                go_wp2_with fail
                refine ⟨rfl, grown_tr T13.gr q15, Or.inr ⟨c15, l15, ?_, rfl⟩⟩
                exact H12.out.trans (pbind_bad e15'.out)
            | false =>
              have h12 := H10.out.trans (pbind_ok (show mayP wVar l10 = .ok false l12 from e12))
              simp only [Bool.false_eq_true, if_false] at h12
              have H12 := Lib.hid h12
              clear e12 h12
              go_wp2_with fail
              refine (truth_any T12.ps).mono ?_
              rintro e w51 ⟨q51, ⟨u51, l51, e51, h51, v51, rfl, rfl⟩ | ⟨c51, l51, e51, rfl⟩⟩
              · have H51 := Lib.hid (H12.out.trans (pbind_ok (show truthP l12 = .ok u51 l51 from e51)))
                have T51 := T12.call q51 h51
                clear e51 h51 q51 T12
                have k52 : w51.cell? ⟨w.heap.size + 1, 2, none⟩ = some (.bool false) := T51.cell 2
                have f52 := T51.it.frozen 2
                have T52 := T51.bool u51
                go_wp2_with fail
                refine (taken1N ⟨#[58]⟩ T52.ps (by simp)).mono ?_
                rintro e w54 ⟨q54, ⟨u54, l54, e54, h54, v54, rfl, rfl⟩ | ⟨c54, l54, e54, rfl⟩⟩
                · have H54 := Lib.hid (H51.out.trans (pbind_ok (show takeP [58] l51 = .ok u54 l54 from e54)))
                  have T54 := T52.call q54 h54
                  clear e54 h54 q54 T52 k52 f52 T51
                  go_wp2_with fail
                  refine (name_any T54.ps).mono ?_
                  rintro e w56 ⟨q56, ⟨u56, l56, e56, h56, v56, rfl, rfl⟩ | ⟨c56, l56, e56, rfl⟩⟩
                  · have H56 := Lib.hid (H54.out.trans (pbind_ok (show nameP l54 = .ok u56 l56 from e56)))
                    have T56 := T54.call q56 h56
                    clear e56 h56 q56 T54
                    have h57 := H56.out.trans (pbind_ok (pret_eq false l56))
                    simp only [Bool.false_eq_true, if_false] at h57
                    have H57 := Lib.hid h57
                    clear h57
                    have h58 := H57.out.trans (pbind_ok (pret_eq () l56))
                    have H58 := Lib.hid h58
                    clear h58
                    have k59 : w56.cell? ⟨w.heap.size + 1, 1, none⟩ = some (.string ⟨#[]⟩) := T56.cell 1
                    have f59 := T56.it.frozen 1
                    have T59 := T56.name u56
                    have k60 : (w56.setCell ⟨w.heap.size + 1, 1, none⟩ (.string ⟨u56.toArray⟩)).cell? ⟨w.heap.size + 1, 0, none⟩ = some (.int .i64 3) := T59.cell 0
                    go_wp2_with fail
                    refine (takenN [⟨#[61]⟩, ⟨#[91]⟩] T59.ps (by decide) (by simp)).mono ?_
                    rintro e w62 ⟨q62, ⟨u62, l62, e62, h62, v62, rfl, rfl⟩ | ⟨c62, l62, e62, rfl⟩⟩
                    · have H62 := Lib.hid (H58.out.trans (pbind_ok (show takesP [[61], [91]] l56 = .ok u62 l62 from e62)))
                      have T62 := T59.call q62 h62
                      clear e62 h62 q62 T59 k59 f59 T56 k60
                      go_wp2_with fail
                      refine (plains_any ⟨#[93]⟩ T62.ps).mono ?_
                      rintro e w64 ⟨q64, ⟨u64, l64, e64, h64, v64, rfl, hr64⟩ | ⟨c64, l64, e64, rfl⟩⟩
                      · have H64 := Lib.hid (H62.out.trans (pbind_ok (show exprsP [93] plainP l62 = .ok u64 l64 from e64)))
                        obtain ⟨z64a, z64b, z64c⟩ := T62.lt
                        have T64 := T62.call q64 h64
                        clear e64 h64 q64
                        obtain ⟨A64, d64, rfl⟩ := Lay.row_len hr64
                        have k65 : w64.cell? ⟨w.heap.size + 1, 6, none⟩ = some (.slice none 0 0) := T64.cell 6
                        have f65 := T64.it.frozen 6
                        have T65 := T64.put ((layE 102).row.mono (T64.fr z64c z64a z64b) hr64)
                        obtain ⟨k660, k661, k662, k663, k664, k665, k666, k667⟩ := Blk.eight T65.it
                        go_wp2_with ((with_reducible show wpList _ _ _ (Oper.mk none (Op.store _ _ _) _ _ _ _ :: _) _ _); refine wp_put (o := ⟨none, .store _ _ _, _, _, _, _⟩) _ _ T65.res rfl rfl rfl rfl info_it rfl rfl ?_; intro w20 b20 q20)
                        obtain ⟨r0, r1, r2, r3, r4, r5, r6, r7⟩ := b20.eight
                        refine bodyPost_ret (v := .agg (icells _ _ _)) (by simp [results, Tryz.results79, go_sem, r0, r1, r2, r3, r4, r5, r6, r7]; rfl) rfl (T65.done q20 ?_ rfl)
                        exact H64.out
                      · have e64' := Lib.hid (show exprsP [93] plainP l62 = .bad c64 l64 from e64)
                        clear e64
                        go_wp2_with fail
                        refine ⟨rfl, grown_tr T62.gr q64, Or.inr ⟨c64, l64, ?_, rfl⟩⟩
                        exact H62.out.trans (pbind_bad e64'.out)
                    · have e62' := Lib.hid (show takesP [[61], [91]] l56 = .bad c62 l62 from e62)
                      clear e62
                      go_wp2_with fail
                      refine ⟨rfl, grown_tr T59.gr q62, Or.inr ⟨c62, l62, ?_, rfl⟩⟩
                      exact H58.out.trans (pbind_bad e62'.out)
                  · have e56' := Lib.hid (show nameP l54 = .bad c56 l56 from e56)
                    clear e56
                    go_wp2_with fail
                    refine ⟨rfl, grown_tr T54.gr q56, Or.inr ⟨c56, l56, ?_, rfl⟩⟩
                    exact H54.out.trans (pbind_bad e56'.out)
                · have e54' := Lib.hid (show takeP [58] l51 = .bad c54 l54 from e54)
                  clear e54
                  go_wp2_with fail
                  refine ⟨rfl, grown_tr T52.gr q54, Or.inr ⟨c54, l54, ?_, rfl⟩⟩
                  exact H51.out.trans (pbind_bad e54'.out)
              · have e51' := Lib.hid (show truthP l12 = .bad c51 l51 from e51)
                clear e51
                go_wp2_with fail
                refine ⟨rfl, grown_tr T12.gr q51, Or.inr ⟨c51, l51, ?_, rfl⟩⟩
                exact H12.out.trans (pbind_bad e51'.out)
          · have e10' := Lib.hid (show takesP [[93], wOf] l7 = .bad c10 l10 from e10)
            clear e10
            go_wp2_with fail
            refine ⟨rfl, grown_tr T8.gr q10, Or.inr ⟨c10, l10, ?_, rfl⟩⟩
            exact H7.out.trans (pbind_bad e10'.out)
        · have e7' := Lib.hid (show numberP l5 = .bad c7 l7 from e7)
          clear e7
          go_wp2_with fail
          refine ⟨rfl, grown_tr T5.gr q7, Or.inr ⟨c7, l7, ?_, rfl⟩⟩
          exact H5.out.trans (pbind_bad e7'.out)
      · have e5' := Lib.hid (show takeP [46, 46] l3 = .bad c5 l5 from e5)
        clear e5
        go_wp2_with fail
        refine ⟨rfl, grown_tr T3.gr q5, Or.inr ⟨c5, l5, ?_, rfl⟩⟩
        exact H3.out.trans (pbind_bad e5'.out)
    · have e3' := Lib.hid (show exactP 1 l1 = .bad c3 l3 from e3)
      clear e3
      go_wp2_with fail
      refine ⟨rfl, grown_tr T1.gr q3, Or.inr ⟨c3, l3, ?_, rfl⟩⟩
      exact H1.out.trans (pbind_bad e3'.out)
  · have e1' := Lib.hid (show takeP [91] l = .bad c1 l1 from e1)
    clear e1
    go_wp2_with fail
    refine ⟨rfl, grown_tr T0.gr q1, Or.inr ⟨c1, l1, ?_, rfl⟩⟩
    exact (Eq.refl (arrayP l)).trans (pbind_bad e1'.out)
set_option maxRecDepth 100000 in
set_option maxHeartbeats 40000000 in
theorem goal_any {g n : Nat} {l : List Tok} {w : World} (h : Ps w g l n) :
  Calls Tryz.prog 84 #[.pointer (some ⟨g, 0, none⟩)] w (PPost g n w (VIt w.heap.size) (goalP l)) := by
  have hmf : ∀ (fn : Fn) (first cap : Array Value) (w : World), (Instr.makeFunc fn first cap).run Tryz.prog w = .ok (.func fn first cap) w := fun _ _ _ _ => rfl
  have T0 := two_start h ⟨6, [], false, [], 0, false, [], 0⟩ rfl rfl
  go_enter Tryz.func84, Tryz.ntmps84
  go_wp2_with fail
  refine (may_any ⟨wSatisfy.toArray⟩ T0.ps).mono ?_
  rintro e w1 ⟨b1, l1, e1, rfl, h1, q1⟩
  have T1 := T0.call q1 h1
  clear h1 q1 T0
  cases b1 with
  | true =>
    have h1 := (Eq.refl (goalP l)).trans (pbind_ok (show mayP wSatisfy l = .ok true l1 from e1))
    simp only [if_true] at h1
    have H1 := Lib.hid h1
    clear e1 h1
    obtain ⟨k20, k21, k22, k23, k24, k25, k26, k27⟩ := Blk.eight T1.it
    go_wp2_with ((with_reducible show wpList _ _ _ (Oper.mk none (Op.store _ _ _) _ _ _ _ :: _) _ _); refine wp_put (o := ⟨none, .store _ _ _, _, _, _, _⟩) _ _ T1.res rfl rfl rfl rfl info_it rfl rfl ?_; intro w20 b20 q20)
    obtain ⟨r0, r1, r2, r3, r4, r5, r6, r7⟩ := b20.eight
    refine bodyPost_ret (v := .agg (icells _ _ _)) (by simp [results, Tryz.results84, go_sem, r0, r1, r2, r3, r4, r5, r6, r7]; rfl) rfl (T1.done q20 ?_ rfl)
    exact H1.out
  | false =>
    have h1 := (Eq.refl (goalP l)).trans (pbind_ok (show mayP wSatisfy l = .ok false l1 from e1))
    simp only [Bool.false_eq_true, if_false] at h1
    have H1 := Lib.hid h1
    clear e1 h1
    go_wp2_with fail
    refine (may_any ⟨wMinimize.toArray⟩ T1.ps).mono ?_
    rintro e w4 ⟨b4, l4, e4, rfl, h4, q4⟩
    have T4 := T1.call q4 h4
    clear h4 q4 T1
    cases b4 with
    | true =>
      have h4 := H1.out.trans (pbind_ok (show mayP wMinimize l1 = .ok true l4 from e4))
      simp only [if_true] at h4
      have H4 := Lib.hid h4
      clear e4 h4
      have k5 : w4.cell? ⟨w.heap.size + 1, 7, none⟩ = some (.int .i64 0) := T4.cell 7
      have f5 := T4.it.frozen 7
      have T5 := T4.ask 1
      go_wp2_with fail
      refine (name_any T5.ps).mono ?_
      rintro e w7 ⟨q7, ⟨u7, l7, e7, h7, v7, rfl, rfl⟩ | ⟨c7, l7, e7, rfl⟩⟩
      · have H7 := Lib.hid (H4.out.trans (pbind_ok (show nameP l4 = .ok u7 l7 from e7)))
        have T7 := T5.call q7 h7
        clear e7 h7 q7 T5 k5 f5 T4
        have k8 : w7.cell? ⟨w.heap.size + 1, 1, none⟩ = some (.string ⟨#[]⟩) := T7.cell 1
        have f8 := T7.it.frozen 1
        have T8 := T7.name u7
        obtain ⟨k90, k91, k92, k93, k94, k95, k96, k97⟩ := Blk.eight T8.it
        go_wp2_with ((with_reducible show wpList _ _ _ (Oper.mk none (Op.store _ _ _) _ _ _ _ :: _) _ _); refine wp_put (o := ⟨none, .store _ _ _, _, _, _, _⟩) _ _ T8.res rfl rfl rfl rfl info_it rfl rfl ?_; intro w20 b20 q20)
        obtain ⟨r0, r1, r2, r3, r4, r5, r6, r7⟩ := b20.eight
        refine bodyPost_ret (v := .agg (icells _ _ _)) (by simp [results, Tryz.results84, go_sem, r0, r1, r2, r3, r4, r5, r6, r7]; rfl) rfl (T8.done q20 ?_ rfl)
        exact H7.out
      · have e7' := Lib.hid (show nameP l4 = .bad c7 l7 from e7)
        clear e7
        go_wp2_with fail
        refine ⟨rfl, grown_tr T5.gr q7, Or.inr ⟨c7, l7, ?_, rfl⟩⟩
        exact H4.out.trans (pbind_bad e7'.out)
    | false =>
      have h4 := H1.out.trans (pbind_ok (show mayP wMinimize l1 = .ok false l4 from e4))
      simp only [Bool.false_eq_true, if_false] at h4
      have H4 := Lib.hid h4
      clear e4 h4
      go_wp2_with fail
      refine (may_any ⟨wMaximize.toArray⟩ T4.ps).mono ?_
      rintro e w11 ⟨b11, l11, e11, rfl, h11, q11⟩
      have T11 := T4.call q11 h11
      clear h11 q11 T4
      cases b11 with
      | true =>
        have h11 := H4.out.trans (pbind_ok (show mayP wMaximize l4 = .ok true l11 from e11))
        simp only [if_true] at h11
        have H11 := Lib.hid h11
        clear e11 h11
        have k12 : w11.cell? ⟨w.heap.size + 1, 7, none⟩ = some (.int .i64 0) := T11.cell 7
        have f12 := T11.it.frozen 7
        have T12 := T11.ask 2
        go_wp2_with fail
        refine (name_any T12.ps).mono ?_
        rintro e w14 ⟨q14, ⟨u14, l14, e14, h14, v14, rfl, rfl⟩ | ⟨c14, l14, e14, rfl⟩⟩
        · have H14 := Lib.hid (H11.out.trans (pbind_ok (show nameP l11 = .ok u14 l14 from e14)))
          have T14 := T12.call q14 h14
          clear e14 h14 q14 T12 k12 f12 T11
          have k15 : w14.cell? ⟨w.heap.size + 1, 1, none⟩ = some (.string ⟨#[]⟩) := T14.cell 1
          have f15 := T14.it.frozen 1
          have T15 := T14.name u14
          obtain ⟨k160, k161, k162, k163, k164, k165, k166, k167⟩ := Blk.eight T15.it
          go_wp2_with ((with_reducible show wpList _ _ _ (Oper.mk none (Op.store _ _ _) _ _ _ _ :: _) _ _); refine wp_put (o := ⟨none, .store _ _ _, _, _, _, _⟩) _ _ T15.res rfl rfl rfl rfl info_it rfl rfl ?_; intro w20 b20 q20)
          obtain ⟨r0, r1, r2, r3, r4, r5, r6, r7⟩ := b20.eight
          refine bodyPost_ret (v := .agg (icells _ _ _)) (by simp [results, Tryz.results84, go_sem, r0, r1, r2, r3, r4, r5, r6, r7]; rfl) rfl (T15.done q20 ?_ rfl)
          exact H14.out
        · have e14' := Lib.hid (show nameP l11 = .bad c14 l14 from e14)
          clear e14
          go_wp2_with fail
          refine ⟨rfl, grown_tr T12.gr q14, Or.inr ⟨c14, l14, ?_, rfl⟩⟩
          exact H11.out.trans (pbind_bad e14'.out)
      | false =>
        have h11 := H4.out.trans (pbind_ok (show mayP wMaximize l4 = .ok false l11 from e11))
        simp only [Bool.false_eq_true, if_false] at h11
        have H11 := Lib.hid h11
        clear e11 h11
        go_wp2_with fail
        refine (wrong_any T11.ps).mono ?_
        rintro e w18 ⟨rfl, q18⟩
        go_wp2_with fail
        refine ⟨rfl, grown_tr T11.gr q18, Or.inr ⟨_, _, ?_, rfl⟩⟩
        exact H11.out
end Go.Proofs.YtpfhgkielakmoaaGreatDoor

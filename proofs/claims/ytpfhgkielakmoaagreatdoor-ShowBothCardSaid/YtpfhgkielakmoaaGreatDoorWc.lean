/-
  Joined texts: Vx, Wc.
-/
import Derived.Test.YtpfhgkielakmoaaGreatDoorBu
import Derived.Shelf.Strings.BuilderF
/-
  show.Text: its contract.
-/
set_option linter.unusedSimpArgs false
set_option linter.unusedVariables false
namespace Go.Proofs.YtpfhgkielakmoaaGreatDoor
open Go.RowKit Num Go.Joins

theorem fits_len {s : List UInt8} (h : fitsS s = true) : s.length ≤ 8192 := by
  unfold fitsS at h
  obtain ⟨_, _, _, _, h1, _⟩ := splitR_ok (eq_of_beq h)
  exact h1
def okI (x : It) : Bool := (itemS x).2 && fitsS (itemS x).1
theorem okI_len {x : It} (h : okI x = true) : (itemS x).1.length ≤ 8192 := by
  unfold okI at h
  rw [Bool.and_eq_true] at h
  exact fits_len h.2
theorem textS_len : ∀ {l : List It}, (∀ x ∈ l, okI x = true) → (textS l).length ≤ 8193 * l.length
  | [], _ => Nat.zero_le _
  | x :: l, h => by
    have h1 := okI_len (h x List.mem_cons_self)
    have h2 := textS_len fun y hy => h y (List.mem_cons_of_mem _ hy)
    have e : textS (x :: l) = ((itemS x).1 ++ [10]) ++ textS l := by simp [textS]
    rw [e, List.length_append, List.length_append, List.length_cons (a := x)]
    show _ + 1 + _ ≤ _
    omega
theorem textS_take {l : List It} {j : Nat} (h : j < l.length) : textS (l.take (j + 1)) = textS (l.take j) ++ ((itemS l[j]).1 ++ [10]) := by
  rw [List.take_succ_eq_append_getElem h, textS_app]
  simp [textS]
theorem showL_big {l : List It} (h : 512 < l.length) : showL l = ([], 3) := by unfold showL; rw [if_pos h]
theorem showL_no {l : List It} (h : ¬ 512 < l.length) {x : It} (hx : x ∈ l) (hb : okI x = false) : showL l = ([], 2) := by
  unfold showL
  rw [if_neg h, if_neg]
  intro h1
  rw [List.all_eq_true] at h1
  have := h1 x hx
  unfold okI at hb
  rw [hb] at this
  cases this
theorem showL_all {l : List It} (h : ¬ 512 < l.length) (ha : ∀ x ∈ l, okI x = true) : showL l = if fitsS (textS l) = true then (textS l, 0) else ([], 3) := by
  unfold showL
  rw [if_neg h, if_pos]
  · rfl
  · rw [List.all_eq_true]
    exact ha
theorem bu_below {T e : TypeId} {B b : Nat} {bs : List Value} {w w' : World} (h : Lib.IsBuilder T e B b bs w) (q : Below w.heap.size w w') : Lib.IsBuilder T e B b bs w' := by
  have key : ∀ {p : Value}, Lib.BuilderAt T e B b p bs w → Lib.BuilderAt T e B b p bs w' := fun {p} h => by
    have hlt := h.lt
    obtain ⟨hB, v, hb, hown, hne⟩ := h
    exact ⟨hB, v, by rw [q.block b hlt]; exact hb, World.ownsRow.kept hown (grown_of_below q) (Classical.em _), hne⟩
  exact h.elim (fun x => .inl (key x)) (fun x => .inr (key x))
set_option maxRecDepth 100000 in
set_option maxHeartbeats 8000000 in
theorem vshow_any {F : Nat → Prop} (A : Option Addr) (c : Nat) (l : List It) (w : World) (hE : Env w) (ha : (layI 47 102).row.P F w (.slice A l.length c) l) (hr : ∀ x ∈ l, RngI x) (hnm : ∀ x ∈ l, x.name.length ≤ 10000) :
    Calls Tryz.prog 9 #[.slice A l.length c] w fun e w' => e = .returned (TEV (showL l)) ∧ Below w.heap.size w w' := by
  by_cases hbig : 512 < l.length
  · have d0 : decide ((512 : Int) < (l.length : Int)) = true := decide_eq_true (by omega)
    have HF := Lib.hid (showL_big hbig)
    clear ha hr hnm
    go_enter Tryz.func9, Tryz.ntmps9
    go_wp2_with fail
    refine bodyPost_ret (v := TEV ([], 3)) (by simp [results, Tryz.results9, go_sem, TEV]) rfl ?_
    exact ⟨by rw [HF.out], Below.refl _ _⟩
  · have d0 : decide ((512 : Int) < (l.length : Int)) = false := decide_eq_false (by omega)
    have HR := Lib.hid hr
    have HNM := Lib.hid hnm
    clear hr hnm
    go_enter Tryz.func9, Tryz.ntmps9
    go_wp2_with fail
    go_loopg [14] l.length (fun k a wr => ∃ (j : Nat), k = l.length - j ∧ j ≤ l.length ∧ a = .int .i64 (j : Nat) ∧ (∀ y ∈ l.take j, okI y = true) ∧ Lib.IsBuilder 54 5 w.heap.size w.heap.size (Lib.byteCells (textS (l.take j))) wr ∧ Below w.heap.size w wr)
    case atStart => exact ⟨0, rfl, Nat.zero_le _, rfl, (by intro y hy; cases hy), Lib.fresh_isBuilder _ _ w, below_alloc1 w _⟩
    case round =>
      obtain ⟨j, hk, hj, rfl, hall, hB, hbl⟩ := hrel
      by_cases hlt : j < l.length
      · have d1 : decide ((j : Int) < (l.length : Int)) = true := decide_eq_true (by omega)
        obtain ⟨b, o, hA, hb1, hc⟩ := row_it (Dt.below _ ha hbl (Nat.le_refl _)) (lt_ne hlt)
        obtain ⟨f0, f1, f2, f4, f5, f7, ⟨A3, n3, f3, hxd⟩, A6, n6, f6, hxv⟩ := hc j hlt
        subst hA
        clear hc ha
        have HA := Lib.hid hall
        have HS := Lib.hid (textS_take hlt)
        have HM := Lib.hid (List.getElem_mem hlt)
        have HT := Lib.hid (List.take_succ_eq_append_getElem hlt)
        have hlen := textS_len hall
        have hlen2 : (l.take j).length ≤ 512 := by rw [List.length_take]; omega
        clear hall
        have hrx := HR.out l[j] HM.out
        have hnx := HNM.out l[j] HM.out
        have HNO := Lib.hid (fun (h : okI l[j] = false) => showL_no hbig HM.out h)
        have HOK := Lib.hid (fun (h : okI l[j] = true) => okI_len h)
        have HI := Lib.hid (fun (w' : World) (hE' : Env w') (q : Below wr.heap.size wr w') => vitem_any l[j] n3 A3 n6 A6 w' hE' hnx hrx (Dt.below _ hxd q (Nat.le_refl _)) (Dt.below _ hxv q (Nat.le_refl _)))
        clear hxd hxv hrx hnx
        have HN1 := Lib.hid (@showI_no l[j])
        have HN2 := Lib.hid (@showI_yes l[j])
        have hoke : okI l[j] = ((itemS l[j]).2 && fitsS (itemS l[j]).1) := rfl
        rw [← hoke] at HN1 HN2
        clear hoke
        unfold itA at HI
        generalize l[j] = x at *
        obtain ⟨xk, xn, xb, xd, xz, xo, xv, xa⟩ := x
        dsimp only at f0 f1 f2 f3 f4 f5 f6 f7 HI
        have q2 := below_alloc1 wr (.cells #[.int .i64 xk, .string ⟨xn.toArray⟩, .bool xb, .slice A3 xd.length n3, .int .i64 xz, .bool xo, .slice A6 xv.length n6, .int .i64 xa] 47)
        have hbl2 := below_trans hbl q2
        have hB2 := bu_below hB q2
        go_wp2_with fail
        refine (HI.out _ (hE.below hbl2) q2).mono ?_
        rintro e w3 ⟨rfl, q3⟩
        have hB3 := bu_below hB2 q3
        have hbl3 := below_trans hbl2 q3
        clear f0 f1 f2 f3 f4 f5 f6 f7 HI q2 q3 hB hB2 hbl hbl2
        cases hok : okI ⟨xk, xn, xb, xd, xz, xo, xv, xa⟩ with
        | false =>
          have hq := HN1.out hok
          have hz := HNO.out hok
          rw [hq]
          have HZ := Lib.hid hz
          clear hz hq
          dsimp only [TEV]
          go_wp2_with fail
          refine bodyPost_ret (v := TEV ([], 2)) (by simp [results, Tryz.results9, go_sem, TEV]) rfl ?_
          exact ⟨by rw [HZ.out], hbl3⟩
        | true =>
          have hq := HN2.out hok
          have ho := HOK.out hok
          rw [hq]
          clear hq
          have HA2 : Hid (∀ y ∈ l.take (j + 1), okI y = true) := by
            show _
            rw [HT.out]
            intro y hy
            rcases List.mem_append.1 hy with hy | hy
            · exact HA.out y hy
            · rw [List.mem_singleton.1 hy]
              exact hok
          have HS2 := HS.out
          generalize (itemS ⟨xk, xn, xb, xd, xz, xo, xv, xa⟩).1 = t at *
          have HS3 := Lib.hid HS2
          clear HS2 HS hok
          dsimp only [TEV]
          have hsz : (⟨t.toArray⟩ : ByteArray).size ≤ 8192 := ho
          have hsc : Hid (Lib.strCells ⟨t.toArray⟩ = Lib.byteCells t) := Lib.strCells_toArray t
          generalize (⟨t.toArray⟩ : ByteArray) = S at *
          go_wp2_with fail
          refine (wstr_any w.heap.size w.heap.size _ S w3 hB3 (by rw [Lib.byteCells_length]; omega) hbl3.size).mono ?_
          rintro e w4 ⟨rfl, hB4, q4⟩
          have hbl4 := hbl3.trans q4
          go_wp2_with fail
          refine (wbyte_any w.heap.size w.heap.size _ 10 w4 (Or.inr hB4) (by rw [List.length_append, Lib.byteCells_length, Lib.strCells_length]; omega) hbl4.size).mono ?_
          rintro e w5 ⟨rfl, hB5, q5⟩
          have hbl5 := hbl4.trans q5
          go_wp2_with fail
          go_roundg (l.length - (j + 1))
          case measure => omega
          case rel =>
            refine ⟨j + 1, rfl, by omega, by simp, HA2.out, Or.inr ?_, hbl5⟩
            rw [hsc.out] at hB5
            rw [HS3.out, Lib.byteCells_append, Lib.byteCells_append, ← List.append_assoc]
            exact hB5
      · have d1 : decide ((j : Int) < (l.length : Int)) = false := decide_eq_false (by omega)
        have e1 : l.take j = l := List.take_of_length_le (by omega)
        rw [e1] at hall hB
        clear e1
        have HF := Lib.hid (showL_all hbig hall)
        clear hall
        have hf : fitsS (⟨(textS l).toArray⟩ : ByteArray).data.toList = fitsS (textS l) := rfl
        have HFT := Lib.hid (vfits_any ⟨(textS l).toArray⟩)
        rw [hf] at HFT
        clear hf ha
        generalize textS l = u at *
        go_wp2_with fail
        refine (Any.Builder_String_any_f Tryz.lays169 Tryz.Builder_Extra_169 w.heap.size w.heap.size u wr (Lib.IsBuilderF.of hB) hbl.size).mono ?_
        rintro e w3 ⟨rfl, hB3, q3⟩
        have hbl3 := hbl.trans q3
        go_wp2_with fail
        refine (HFT.out _ (hE.below hbl3)).mono ?_
        rintro e w4 ⟨rfl, q4⟩
        have hbl4 := below_trans hbl3 q4
        have hB4 : Lib.IsBuilderF 54 5 w.heap.size w.heap.size (Lib.byteCells u) w4 := by
          have key : ∀ {p : Value}, Lib.BuilderAtF 54 5 w.heap.size w.heap.size p (Lib.byteCells u) w3 → Lib.BuilderAtF 54 5 w.heap.size w.heap.size p (Lib.byteCells u) w4 := fun {p} h => by
            obtain ⟨hB, v, hb, hown, hne⟩ := h
            have hlt : w.heap.size < w3.heap.size := (Array.getElem?_eq_some_iff.1 hb).1
            exact ⟨hB, v, by rw [q4.block _ hlt]; exact hb, World.ownsRowF.kept hown (grown_of_below q4) (Classical.em _), hne⟩
          exact hB3.elim (fun x => .inl (key x)) (fun x => .inr (key x))
        cases hfb : fitsS u with
        | false =>
          rw [hfb] at HF
          go_wp2_with fail
          refine bodyPost_ret (v := TEV ([], 3)) (by simp [results, Tryz.results9, go_sem, TEV]) rfl ?_
          exact ⟨by rw [HF.out]; rfl, hbl4⟩
        | true =>
          rw [hfb] at HF
          go_wp2_with fail
          refine (Any.Builder_String_any_f Tryz.lays169 Tryz.Builder_Extra_169 w.heap.size w.heap.size u w4 hB4 hbl4.size).mono ?_
          rintro e w5 ⟨rfl, hB5, q5⟩
          go_wp2_with fail
          refine bodyPost_ret (v := TEV (u, 0)) (by simp [results, Tryz.results9, go_sem, TEV]) rfl ?_
          exact ⟨by rw [HF.out]; rfl, hbl4.trans q5⟩
end Go.Proofs.YtpfhgkielakmoaaGreatDoor
/-
  The law's alive.
-/
set_option linter.unusedSimpArgs false
set_option linter.unusedVariables false
namespace Go.Proofs.YtpfhgkielakmoaaGreatDoor
open Go.RowKit Num Go.Joins

def aTxt : List UInt8 := [118, 97, 114, 32, 49, 46, 46, 51, 58, 32, 120, 32, 58, 58, 32, 111, 117, 116, 112, 117, 116, 95, 118, 97, 114, 59]
def iA : It := ⟨2, [120], false, [(1, 3)], 0, true, [], 0⟩
def iB : It := ⟨6, [118, 97, 114], false, [], 0, false, [], 1⟩
def iC : It := ⟨6, [], false, [], 0, false, [], 0⟩
theorem showI_A : showI iA = (aTxt, 0) := by kernel_rfl
theorem showI_B : showI iB = ([], 2) := by kernel_rfl
theorem right_C : ((itemS iC).2 && fitsS (itemS iC).1) = true := by kernel_rfl
theorem rng_A : RngI iA := ⟨⟨by decide, by decide⟩, fun r hr => by rw [List.mem_singleton.1 hr]; exact ⟨⟨by decide, by decide⟩, ⟨by decide, by decide⟩⟩, fun y hy => absurd hy List.not_mem_nil⟩
theorem rng_B : RngI iB := ⟨⟨by decide, by decide⟩, fun r hr => absurd hr List.not_mem_nil, fun y hy => absurd hy List.not_mem_nil⟩
theorem rng_C : RngI iC := ⟨⟨by decide, by decide⟩, fun r hr => absurd hr List.not_mem_nil, fun y hy => absurd hy List.not_mem_nil⟩
set_option maxRecDepth 100000 in
set_option maxHeartbeats 4000000 in
theorem alive7_any (w : World) (hE : Env w) : Calls Tryz.prog 7 #[] w fun e w' => e = .returned (.bool true) ∧ Below w.heap.size w w' := by
  have q0 := below_alloc1 w (.cells #[.int .i64 1, .int .i64 3] 44)
  have hrow : layR.row.P (fun _ => True) (w.alloc (.cells #[.int .i64 1, .int .i64 3] 44)) (.slice (some ⟨w.heap.size, 0, none⟩) 1 1) [(1, 3)] := by
    have kb : Blk (w.alloc (.cells #[.int .i64 1, .int .i64 3] 44)) w.heap.size 44 #[.int .i64 1, .int .i64 3] := Blk.new ..
    obtain ⟨u1, u2, _, _⟩ := kb.both
    refine ⟨_, _, rfl, Nat.le_refl _, by decide, fun _ => ⟨w.heap.size, 0, rfl, trivial, kb.lt, fun j hj k hk => ?_⟩⟩
    have hj0 : j = 0 := by
      have : j < 1 := hj
      omega
    subst hj0
    have hk2 : k < 2 := hk
    match k, hk2 with
    | 0, _ => exact ⟨_, u1, rfl⟩
    | 1, _ => exact ⟨_, u2, rfl⟩
  have hnil : ∀ (w' : World), (layE 102).row.P (fun _ => True) w' (.slice none 0 0) [] := fun w' => Lay.row_nil (Nat.zero_le _)
  have hnil2 : ∀ (w' : World), layR.row.P (fun _ => True) w' (.slice none 0 0) [] := fun w' => Lay.row_nil (Nat.zero_le _)
  have HA := Lib.hid (vitem_any iA 1 (some ⟨w.heap.size, 0, none⟩) 0 none _ (hE.below q0) (by decide) rng_A hrow (hnil _))
  have HB := Lib.hid (fun (w' : World) (hE' : Env w') => vitem_any iB 0 none 0 none w' hE' (by decide) rng_B (hnil2 _) (hnil _))
  have HC := Lib.hid (fun (w' : World) (hE' : Env w') => vright_any iC 0 none 0 none w' hE' (by decide) rng_C (hnil2 _) (hnil _))
  rw [showI_A] at HA
  rw [showI_B] at HB
  rw [right_C] at HC
  clear hrow hnil hnil2
  go_enter Tryz.func7, Tryz.ntmps7
  go_wp2_with fail
  refine (HA.out).mono ?_
  rintro e w1 ⟨rfl, q1⟩
  have q2 := below_trans q0 q1
  dsimp only [TEV, aTxt]
  go_wp2_with fail
  refine (HB.out _ (hE.below q2)).mono ?_
  rintro e w3 ⟨rfl, q3⟩
  have q4 := below_trans q2 q3
  dsimp only [TEV]
  go_wp2_with fail
  refine (HC.out _ (hE.below q4)).mono ?_
  rintro e w5 ⟨rfl, q5⟩
  go_wp2_with fail
  go_ret
  exact ⟨rfl, below_trans q4 q5⟩
end Go.Proofs.YtpfhgkielakmoaaGreatDoor

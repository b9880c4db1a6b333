/-
  Contracts of fractions: opposites, whole parts, texts.
-/
import Derived.Test.YtlmgdhdakeekkaaQd
set_option linter.unusedSimpArgs false
set_option linter.unusedVariables false
namespace Go.Proofs.Ytlmgdhdakeekkaa
open Go.RowKit Num

set_option maxRecDepth 100000 in
set_option maxHeartbeats 1000000 in
theorem qfloor_any {n m : Bool} {A B : Option Addr} {c d : Nat} {xs ys : List Nat} {w : World} (ha : Rd w A c xs) (hb : Rd w B d ys) :
    Calls Try.prog 20 #[rv n A xs.length c m B ys.length d] w fun e w' => RetI w w' e (qfloorR n xs m ys) := by
  have M : Mem w ((w.alloc (.cells #[.bool n, .slice A xs.length c, .bool m, .slice B ys.length d] 32)).alloc (.cells #[.bool false, .slice none 0 0] 30)) [(w.heap.size + 1, 30, #[.bool false, .slice none 0 0]), (w.heap.size, 32, #[.bool n, .slice A xs.length c, .bool m, .slice B ys.length d])] [(B, d, ys), (A, c, xs)] :=
    (((((Mem.start w).addR ha).addR hb).new 32 #[.bool n, .slice A xs.length c, .bool m, .slice B ys.length d]).newAt (by simp) 30 #[.bool false, .slice none 0 0])
  have ox := ha.ok
  have oy := hb.ok
  clear ha hb
  rcases Bool.eq_false_or_eq_true (qright n xs m ys) with h | h
  case inr =>
    have HB := Lib.hid h
    unfold qfloorR
    rw [h]
    clear h ox oy
    obtain ⟨v1, v2, v3, v4⟩ := (M.k (i := 1) rfl).four
    go_enter Try.func20, Try.ntmps20
    go_wp2_with fail
    refine (qright_any (M.r (i := 1) rfl) (M.r (i := 0) rfl)).mono ?_
    rw [HB.out]
    rintro e z1 ⟨rfl, q⟩
    replace M := M.below q
    clear q v1 v2 v3 v4
    obtain ⟨v1, v2, v3, v4⟩ := (M.k (i := 1) rfl).four
    go_wp2_with ((with_reducible show wpList _ _ _ (Oper.mk none (Op.store _ _ _) _ _ _ _ :: _) _ _); refine wp_put (o := ⟨none, .store _ _ _, _, _, _, _⟩) _ _ (M.k (i := 0) rfl) rfl rfl rfl rfl info_int rfl rfl ?_; intro w4 b4 g4; replace M := M.rowAt (i := 0) rfl (by omega) (by simp <;> omega) rfl b4 g4; obtain ⟨f1, f2, _, _⟩ := (M.k (i := 0) rfl).both)
    exact bodyPost_ret (v := .tuple #[iv false none 0 0, .int .i64 2]) (by simp [results, Try.results20, go_sem, f1, f2]) rfl ⟨⟨none, 0, rfl, Rd.nil⟩, M.bel⟩
  have HB := Lib.hid h
  obtain ⟨rn, rd, e1, e2⟩ := floor_facts ox oy h
  generalize qfloorR n xs m ys = r at *
  obtain ⟨fn, fd, fe⟩ := r
  simp only at e1 e2
  subst e2
  have H1 := Lib.hid e1
  clear h ox oy e1
  obtain ⟨v1, v2, v3, v4⟩ := (M.k (i := 1) rfl).four
  go_enter Try.func20, Try.ntmps20
  go_wp2_with fail
  refine (qright_any (M.r (i := 1) rfl) (M.r (i := 0) rfl)).mono ?_
  rw [HB.out]
  rintro e z1 ⟨rfl, q⟩
  replace M := M.below q
  clear q v1 v2 v3 v4
  obtain ⟨v1, v2, v3, v4⟩ := (M.k (i := 1) rfl).four
  go_wp2_with fail
  refine (sdivmod_any _ _ A B c d _ _ _ (M.r (i := 1) rfl) (M.r (i := 0) rfl)).mono ?_
  rw [H1.out]
  rintro e w2 ⟨⟨A4, c4, B4, d4, rfl, h, k⟩, q⟩
  replace M := ((M.below q).addR k).addR h
  have p2 := (M.k (i := 0) rfl).lt
  replace M := (M.new 30 #[.bool fn, .slice A4 fd.length c4]).newAt (g := w2.heap.size + 1) (by simp) 30 #[.bool rn, .slice B4 rd.length d4]
  clear q h k v1 v2 v3 v4
  obtain ⟨v1, v2, _, _⟩ := (M.k (i := 1) rfl).both
  go_wp2_with ((with_reducible show wpList _ _ _ (Oper.mk none (Op.store _ _ _) _ _ _ _ :: _) _ _); refine wp_put (o := ⟨none, .store _ _ _, _, _, _, _⟩) _ _ (M.k (i := 2) rfl) rfl rfl rfl rfl info_int rfl rfl ?_; intro w4 b4 g4; replace M := M.rowAt (i := 2) rfl (by omega) (by simp <;> omega) rfl b4 g4; obtain ⟨f1, f2, _, _⟩ := (M.k (i := 2) rfl).both)
  exact bodyPost_ret (v := .tuple #[iv fn A4 fd.length c4, .int .i64 0]) (by simp [results, Try.results20, go_sem, f1, f2]) rfl ⟨⟨A4, c4, rfl, M.r (i := 0) rfl⟩, M.bel⟩
set_option maxRecDepth 100000 in
set_option maxHeartbeats 1000000 in
theorem qtext_any {n m : Bool} {A B : Option Addr} {c d : Nat} {xs ys : List Nat} {w : World} (ha : Rd w A c xs) (hb : Rd w B d ys) :
    Calls Try.prog 19 #[rv n A xs.length c m B ys.length d] w fun e w' => RetTE w w' e (qtextR n xs m ys) := by
  have M : Mem w (w.alloc (.cells #[.bool n, .slice A xs.length c, .bool m, .slice B ys.length d] 32)) [(w.heap.size, 32, #[.bool n, .slice A xs.length c, .bool m, .slice B ys.length d])] [(B, d, ys), (A, c, xs)] :=
    ((((Mem.start w).addR ha).addR hb).new 32 #[.bool n, .slice A xs.length c, .bool m, .slice B ys.length d])
  have ox := ha.ok
  have oy := hb.ok
  clear ha hb
  rcases Bool.eq_false_or_eq_true (qright n xs m ys) with h | h
  case inr =>
    have HB := Lib.hid h
    unfold qtextR
    rw [h]
    clear h ox oy
    obtain ⟨v1, v2, v3, v4⟩ := (M.k (i := 0) rfl).four
    go_enter Try.func19, Try.ntmps19
    go_wp2_with fail
    refine (qright_any (M.r (i := 1) rfl) (M.r (i := 0) rfl)).mono ?_
    rw [HB.out]
    rintro e z1 ⟨rfl, q⟩
    replace M := M.below q
    clear q v1 v2 v3 v4
    obtain ⟨v1, v2, v3, v4⟩ := (M.k (i := 0) rfl).four
    go_wp2
    exact bodyPost_ret (v := .tuple #[.string ⟨#[]⟩, .int .i64 2]) (by simp [results, Try.results19, go_sem]) rfl ⟨rfl, M.bel⟩
  have HB := Lib.hid h
  unfold qtextR
  rw [if_pos h]
  obtain ⟨h1, h2, h3, h4, h5, h6, h7⟩ := qright_iff.1 h
  have l1 := intS_lenQ ox h1
  have l2 := intS_lenQ oy h2
  have HT1 := Lib.hid (stext_ok h1)
  have HT2 := Lib.hid (stext_ok h2)
  have hI := den_is oy h
  clear h h1 h2 h3 h4 h5 h6 h7 ox oy
  generalize intS (sv n xs) = t1 at *
  generalize intS (sv m ys) = t2 at *
  by_cases hd : ys = [1]
  · have hI2 := hI.trans (decide_eq_true hd)
    rw [if_pos hd]
    have HI := Lib.hid hI2
    clear hI hI2 hd
    obtain ⟨v1, v2, v3, v4⟩ := (M.k (i := 0) rfl).four
    go_enter Try.func19, Try.ntmps19
    go_wp2_with fail
    refine (qright_any (M.r (i := 1) rfl) (M.r (i := 0) rfl)).mono ?_
    rw [HB.out]
    rintro e z1 ⟨rfl, q⟩
    replace M := M.below q
    clear q v1 v2 v3 v4
    obtain ⟨v1, v2, v3, v4⟩ := (M.k (i := 0) rfl).four
    go_wp2_with fail
    refine (stext_any _ A c _ _ (M.r (i := 1) rfl)).mono ?_
    rintro e z2 ⟨rfl, q⟩
    rw [HT1.out]
    replace M := M.below q
    clear q v1 v2 v3 v4
    obtain ⟨v1, v2, v3, v4⟩ := (M.k (i := 0) rfl).four
    go_wp2_with fail
    refine (is_any 1 (M.r (i := 0) rfl)).mono ?_
    rw [HI.out]
    rintro e z3 ⟨rfl, q⟩
    replace M := M.below q
    go_wp2
    exact bodyPost_ret (v := .tuple #[.string ⟨t1.toArray⟩, .int .i64 0]) (by simp [results, Try.results19, go_sem]) rfl ⟨rfl, M.bel⟩
  · have hI2 := hI.trans (decide_eq_false hd)
    rw [if_neg hd]
    have HI := Lib.hid hI2
    clear hI hI2 hd
    obtain ⟨v1, v2, v3, v4⟩ := (M.k (i := 0) rfl).four
    go_enter Try.func19, Try.ntmps19
    go_wp2_with fail
    refine (qright_any (M.r (i := 1) rfl) (M.r (i := 0) rfl)).mono ?_
    rw [HB.out]
    rintro e z1 ⟨rfl, q⟩
    replace M := M.below q
    clear q v1 v2 v3 v4
    obtain ⟨v1, v2, v3, v4⟩ := (M.k (i := 0) rfl).four
    go_wp2_with fail
    refine (stext_any _ A c _ _ (M.r (i := 1) rfl)).mono ?_
    rintro e z2 ⟨rfl, q⟩
    rw [HT1.out]
    replace M := M.below q
    clear q v1 v2 v3 v4
    obtain ⟨v1, v2, v3, v4⟩ := (M.k (i := 0) rfl).four
    go_wp2_with fail
    refine (is_any 1 (M.r (i := 0) rfl)).mono ?_
    rw [HI.out]
    rintro e z3 ⟨rfl, q⟩
    replace M := M.below q
    clear q v1 v2 v3 v4
    obtain ⟨v1, v2, v3, v4⟩ := (M.k (i := 0) rfl).four
    go_wp2_with fail
    refine (stext_any _ B d _ _ (M.r (i := 0) rfl)).mono ?_
    rintro e z4 ⟨rfl, q⟩
    rw [HT2.out]
    replace M := M.below q
    go_wp2
    refine bodyPost_ret (v := .tuple #[.string (((⟨t1.toArray⟩ : ByteArray) ++ ⟨#[47]⟩) ++ ⟨t2.toArray⟩), .int .i64 0]) (by simp [results, Try.results19, go_sem]) rfl ⟨?_, M.bel⟩
    rw [cat47]
end Go.Proofs.Ytlmgdhdakeekkaa

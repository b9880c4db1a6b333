/-
  Contracts of fractions: opposites, whole parts, texts.
-/
import Derived.Test.YtdhikpfppbcjkaaQd
set_option linter.unusedSimpArgs false
set_option linter.unusedVariables false
namespace Go.Proofs.Ytdhikpfppbcjkaa
open Go.RowKit Num

set_option maxRecDepth 100000 in
set_option maxHeartbeats 1000000 in
theorem qneg_any {n m : Bool} {A B : Option Addr} {c d : Nat} {xs ys : List Nat} {w : World} (ha : Rd w A c xs) (hb : Rd w B d ys) :
    Calls Try.prog 40 #[rv n A xs.length c m B ys.length d] w fun e w' => RetQE w w' e (qnegR n xs m ys) := by
  have M : Mem w ((w.alloc (.cells #[.bool n, .slice A xs.length c, .bool m, .slice B ys.length d] 31)).alloc (.cells #[.bool false, .slice none 0 0, .bool false, .slice none 0 0] 31)) [(w.heap.size + 1, 31, #[.bool false, .slice none 0 0, .bool false, .slice none 0 0]), (w.heap.size, 31, #[.bool n, .slice A xs.length c, .bool m, .slice B ys.length d])] [(B, d, ys), (A, c, xs)] :=
    (((((Mem.start w).addR ha).addR hb).new 31 #[.bool n, .slice A xs.length c, .bool m, .slice B ys.length d]).newAt (by simp) 31 #[.bool false, .slice none 0 0, .bool false, .slice none 0 0])
  have ox := ha.ok
  have oy := hb.ok
  clear ha hb
  rcases Bool.eq_false_or_eq_true (qright n xs m ys) with h | h
  case inr =>
    have HB := Lib.hid h
    unfold qnegR
    rw [h]
    clear h ox oy
    obtain ⟨v1, v2, v3, v4⟩ := (M.k (i := 1) rfl).four
    go_enter Try.func40, Try.ntmps40
    go_wp2_with fail
    refine (qright_any (M.r (i := 1) rfl) (M.r (i := 0) rfl)).mono ?_
    rw [HB.out]
    rintro e z1 ⟨rfl, q⟩
    replace M := M.below q
    clear q v1 v2 v3 v4
    obtain ⟨v1, v2, v3, v4⟩ := (M.k (i := 1) rfl).four
    go_wp2_with ((with_reducible show wpList _ _ _ (Oper.mk none (Op.store _ _ _) _ _ _ _ :: _) _ _); refine wp_put (o := ⟨none, .store _ _ _, _, _, _, _⟩) _ _ (M.k (i := 0) rfl) rfl rfl rfl rfl info_rat rfl rfl ?_; intro w4 b4 g4; replace M := M.rowAt (i := 0) rfl (by omega) (by simp <;> omega) rfl b4 g4; obtain ⟨f1, f2, f3, f4⟩ := (M.k (i := 0) rfl).four)
    exact bodyPost_ret (v := .tuple #[rv false none 0 0 false none 0 0, .int .i64 2]) (by simp [results, Try.results40, go_sem, f1, f2, f3, f4]) rfl ⟨⟨none, 0, none, 0, rfl, Rd.nil, Rd.nil⟩, M.bel⟩
  have HB := Lib.hid h
  obtain ⟨nn, e1, e2, e3⟩ := neg_facts ox oy h
  rw [e2]
  have H1 := Lib.hid e1
  have H3 := Lib.hid e3
  clear h ox oy e1 e2 e3
  obtain ⟨v1, v2, v3, v4⟩ := (M.k (i := 1) rfl).four
  go_enter Try.func40, Try.ntmps40
  go_wp2_with fail
  refine (qright_any (M.r (i := 1) rfl) (M.r (i := 0) rfl)).mono ?_
  rw [HB.out]
  rintro e z1 ⟨rfl, q⟩
  replace M := M.below q
  clear q v1 v2 v3 v4
  obtain ⟨v1, v2, v3, v4⟩ := (M.k (i := 1) rfl).four
  go_wp2_with fail
  refine (sneg_any _ A c _ _ (M.r (i := 1) rfl)).mono ?_
  rw [H1.out]
  rintro e w2 ⟨⟨A4, c4, rfl, h⟩, q⟩
  replace M := (M.below q).addR h
  have p2 := (M.k (i := 0) rfl).lt
  replace M := M.new 29 #[.bool nn, .slice A4 xs.length c4]
  clear q h v1 v2 v3 v4
  obtain ⟨v1, v2, v3, v4⟩ := (M.k (i := 2) rfl).four
  go_wp2_with fail
  refine (sadd_any _ false B none d 0 _ [] _ (M.r (i := 1) rfl) Rd.nil).mono ?_
  rw [H3.out]
  rintro e w3 ⟨⟨A6, c6, rfl, h⟩, q⟩
  replace M := (M.below q).addR h
  have p3 := (M.k (i := 0) rfl).lt
  replace M := M.new 29 #[.bool m, .slice A6 ys.length c6]
  clear q h v1 v2 v3 v4
  obtain ⟨v1, v2, _, _⟩ := (M.k (i := 0) rfl).both
  obtain ⟨v3, v4, _, _⟩ := (M.k (i := 1) rfl).both
  go_wp2_with ((with_reducible show wpList _ _ _ (Oper.mk none (Op.store _ _ _) _ _ _ _ :: _) _ _); refine wp_put (o := ⟨none, .store _ _ _, _, _, _, _⟩) _ _ (M.k (i := 2) rfl) rfl rfl rfl rfl info_rat rfl rfl ?_; intro w4 b4 g4; replace M := M.rowAt (i := 2) rfl (by omega) (by simp <;> omega) rfl b4 g4; obtain ⟨f1, f2, f3, f4⟩ := (M.k (i := 2) rfl).four)
  exact bodyPost_ret (v := .tuple #[rv nn A4 xs.length c4 m A6 ys.length c6, .int .i64 0]) (by simp [results, Try.results40, go_sem, f1, f2, f3, f4]) rfl ⟨⟨A4, c4, A6, c6, rfl, M.r (i := 1) rfl, M.r (i := 0) rfl⟩, M.bel⟩
set_option maxRecDepth 100000 in
set_option maxHeartbeats 1000000 in
theorem qfloor_any {n m : Bool} {A B : Option Addr} {c d : Nat} {xs ys : List Nat} {w : World} (ha : Rd w A c xs) (hb : Rd w B d ys) :
    Calls Try.prog 23 #[rv n A xs.length c m B ys.length d] w fun e w' => RetI w w' e (qfloorR n xs m ys) := by
  have M : Mem w ((w.alloc (.cells #[.bool n, .slice A xs.length c, .bool m, .slice B ys.length d] 31)).alloc (.cells #[.bool false, .slice none 0 0] 29)) [(w.heap.size + 1, 29, #[.bool false, .slice none 0 0]), (w.heap.size, 31, #[.bool n, .slice A xs.length c, .bool m, .slice B ys.length d])] [(B, d, ys), (A, c, xs)] :=
    (((((Mem.start w).addR ha).addR hb).new 31 #[.bool n, .slice A xs.length c, .bool m, .slice B ys.length d]).newAt (by simp) 29 #[.bool false, .slice none 0 0])
  have ox := ha.ok
  have oy := hb.ok
  clear ha hb
  rcases Bool.eq_false_or_eq_true (qright n xs m ys) with h | h
  case inr =>
    have HB := Lib.hid h
    unfold qfloorR
    rw [h]
    clear h ox oy
    obtain ⟨v1, v2, v3, v4⟩ := (M.k (i := 1) rfl).four
    go_enter Try.func23, Try.ntmps23
    go_wp2_with fail
    refine (qright_any (M.r (i := 1) rfl) (M.r (i := 0) rfl)).mono ?_
    rw [HB.out]
    rintro e z1 ⟨rfl, q⟩
    replace M := M.below q
    clear q v1 v2 v3 v4
    obtain ⟨v1, v2, v3, v4⟩ := (M.k (i := 1) rfl).four
    go_wp2_with ((with_reducible show wpList _ _ _ (Oper.mk none (Op.store _ _ _) _ _ _ _ :: _) _ _); refine wp_put (o := ⟨none, .store _ _ _, _, _, _, _⟩) _ _ (M.k (i := 0) rfl) rfl rfl rfl rfl info_int rfl rfl ?_; intro w4 b4 g4; replace M := M.rowAt (i := 0) rfl (by omega) (by simp <;> omega) rfl b4 g4; obtain ⟨f1, f2, _, _⟩ := (M.k (i := 0) rfl).both)
    exact bodyPost_ret (v := .tuple #[iv false none 0 0, .int .i64 2]) (by simp [results, Try.results23, go_sem, f1, f2]) rfl ⟨⟨none, 0, rfl, Rd.nil⟩, M.bel⟩
  have HB := Lib.hid h
  obtain ⟨rn, rd, e1, e2⟩ := floor_facts ox oy h
  generalize qfloorR n xs m ys = r at *
  obtain ⟨fn, fd, fe⟩ := r
  simp only at e1 e2
  subst e2
  have H1 := Lib.hid e1
  clear h ox oy e1
  obtain ⟨v1, v2, v3, v4⟩ := (M.k (i := 1) rfl).four
  go_enter Try.func23, Try.ntmps23
  go_wp2_with fail
  refine (qright_any (M.r (i := 1) rfl) (M.r (i := 0) rfl)).mono ?_
  rw [HB.out]
  rintro e z1 ⟨rfl, q⟩
  replace M := M.below q
  clear q v1 v2 v3 v4
  obtain ⟨v1, v2, v3, v4⟩ := (M.k (i := 1) rfl).four
  go_wp2_with fail
  refine (sdivmod_any _ _ A B c d _ _ _ (M.r (i := 1) rfl) (M.r (i := 0) rfl)).mono ?_
  rw [H1.out]
  rintro e w2 ⟨⟨A4, c4, B4, d4, rfl, h, k⟩, q⟩
  replace M := ((M.below q).addR k).addR h
  have p2 := (M.k (i := 0) rfl).lt
  replace M := (M.new 29 #[.bool fn, .slice A4 fd.length c4]).newAt (g := w2.heap.size + 1) (by simp) 29 #[.bool rn, .slice B4 rd.length d4]
  clear q h k v1 v2 v3 v4
  obtain ⟨v1, v2, _, _⟩ := (M.k (i := 1) rfl).both
  go_wp2_with ((with_reducible show wpList _ _ _ (Oper.mk none (Op.store _ _ _) _ _ _ _ :: _) _ _); refine wp_put (o := ⟨none, .store _ _ _, _, _, _, _⟩) _ _ (M.k (i := 2) rfl) rfl rfl rfl rfl info_int rfl rfl ?_; intro w4 b4 g4; replace M := M.rowAt (i := 2) rfl (by omega) (by simp <;> omega) rfl b4 g4; obtain ⟨f1, f2, _, _⟩ := (M.k (i := 2) rfl).both)
  exact bodyPost_ret (v := .tuple #[iv fn A4 fd.length c4, .int .i64 0]) (by simp [results, Try.results23, go_sem, f1, f2]) rfl ⟨⟨A4, c4, rfl, M.r (i := 0) rfl⟩, M.bel⟩
set_option maxRecDepth 100000 in
set_option maxHeartbeats 1000000 in
theorem qceil_any {n m : Bool} {A B : Option Addr} {c d : Nat} {xs ys : List Nat} {w : World} (ha : Rd w A c xs) (hb : Rd w B d ys) :
    Calls Try.prog 25 #[rv n A xs.length c m B ys.length d] w fun e w' => RetI w w' e (qceilR n xs m ys) := by
  have M : Mem w ((w.alloc (.cells #[.bool n, .slice A xs.length c, .bool m, .slice B ys.length d] 31)).alloc (.cells #[.bool false, .slice none 0 0] 29)) [(w.heap.size + 1, 29, #[.bool false, .slice none 0 0]), (w.heap.size, 31, #[.bool n, .slice A xs.length c, .bool m, .slice B ys.length d])] [(B, d, ys), (A, c, xs)] :=
    (((((Mem.start w).addR ha).addR hb).new 31 #[.bool n, .slice A xs.length c, .bool m, .slice B ys.length d]).newAt (by simp) 29 #[.bool false, .slice none 0 0])
  have ox := ha.ok
  have oy := hb.ok
  clear ha hb
  obtain ⟨v1, v2, v3, v4⟩ := (M.k (i := 1) rfl).four
  rcases Bool.eq_false_or_eq_true (qright n xs m ys) with h | h
  case inr =>
    have HB : Hid (qnegR n xs m ys = dbad 2) := by show _ = _; unfold qnegR; rw [h]; rfl
    unfold qceilR
    rw [h]
    clear h ox oy
    go_enter Try.func25, Try.ntmps25
    go_wp2_with fail
    refine (qneg_any (M.r (i := 1) rfl) (M.r (i := 0) rfl)).mono ?_
    rw [HB.out]
    rintro e w2 ⟨⟨A4, c4, B4, d4, rfl, h, k⟩, q⟩
    replace M := M.below q
    have p2 := (M.k (i := 0) rfl).lt
    replace M := M.new 31 #[.bool false, .slice A4 0 c4, .bool false, .slice B4 0 d4]
    clear q h k v1 v2 v3 v4
    go_wp2_with ((with_reducible show wpList _ _ _ (Oper.mk none (Op.store _ _ _) _ _ _ _ :: _) _ _); refine wp_put (o := ⟨none, .store _ _ _, _, _, _, _⟩) _ _ (M.k (i := 1) rfl) rfl rfl rfl rfl info_int rfl rfl ?_; intro w4 b4 g4; replace M := M.rowAt (i := 1) rfl (by omega) (by simp <;> omega) rfl b4 g4; obtain ⟨f1, f2, _, _⟩ := (M.k (i := 1) rfl).both)
    exact bodyPost_ret (v := .tuple #[iv false none 0 0, .int .i64 2]) (by simp [results, Try.results25, go_sem, f1, f2, dbad]) rfl ⟨⟨none, 0, rfl, Rd.nil⟩, M.bel⟩
  obtain ⟨nn, qn, qd, rn, rd, cn, cd, e1, e2, e3, e4⟩ := ceil_facts ox oy h
  rw [e4]
  have H1 := Lib.hid e1
  have H2 := Lib.hid e2
  have H3 := Lib.hid e3
  clear h ox oy e1 e2 e3 e4
  go_enter Try.func25, Try.ntmps25
  go_wp2_with fail
  refine (qneg_any (M.r (i := 1) rfl) (M.r (i := 0) rfl)).mono ?_
  rw [H1.out]
  rintro e w2 ⟨⟨A4, c4, B4, d4, rfl, h, k⟩, q⟩
  replace M := ((M.below q).addR k).addR h
  have p2 := (M.k (i := 0) rfl).lt
  replace M := M.new 31 #[.bool nn, .slice A4 xs.length c4, .bool m, .slice B4 ys.length d4]
  clear q h k v1 v2 v3 v4
  obtain ⟨v1, v2, v3, v4⟩ := (M.k (i := 0) rfl).four
  go_wp2_with fail
  refine (sdivmod_any _ _ A4 B4 c4 d4 _ _ _ (M.r (i := 0) rfl) (M.r (i := 1) rfl)).mono ?_
  rw [H2.out]
  rintro e w3 ⟨⟨A5, c5, B5, d5, rfl, h, k⟩, q⟩
  replace M := ((M.below q).addR k).addR h
  have p3 := (M.k (i := 0) rfl).lt
  replace M := (M.new 29 #[.bool qn, .slice A5 qd.length c5]).newAt (g := w3.heap.size + 1) (by simp) 29 #[.bool rn, .slice B5 rd.length d5]
  clear q h k v1 v2 v3 v4
  obtain ⟨v1, v2, _, _⟩ := (M.k (i := 1) rfl).both
  go_wp2_with fail
  refine (sneg_any _ A5 c5 _ _ (M.r (i := 0) rfl)).mono ?_
  rw [H3.out]
  rintro e w5 ⟨⟨A6, c6, rfl, h⟩, q⟩
  replace M := (M.below q).addR h
  clear q h v1 v2
  go_wp2_with ((with_reducible show wpList _ _ _ (Oper.mk none (Op.store _ _ _) _ _ _ _ :: _) _ _); refine wp_put (o := ⟨none, .store _ _ _, _, _, _, _⟩) _ _ (M.k (i := 3) rfl) rfl rfl rfl rfl info_int rfl rfl ?_; intro w4 b4 g4; replace M := M.rowAt (i := 3) rfl (by omega) (by simp <;> omega) rfl b4 g4; obtain ⟨f1, f2, _, _⟩ := (M.k (i := 3) rfl).both)
  exact bodyPost_ret (v := .tuple #[iv cn A6 cd.length c6, .int .i64 0]) (by simp [results, Try.results25, go_sem, f1, f2]) rfl ⟨⟨A6, c6, rfl, M.r (i := 0) rfl⟩, M.bel⟩
set_option maxRecDepth 100000 in
set_option maxHeartbeats 1000000 in
theorem qtext_any {n m : Bool} {A B : Option Addr} {c d : Nat} {xs ys : List Nat} {w : World} (ha : Rd w A c xs) (hb : Rd w B d ys) :
    Calls Try.prog 27 #[rv n A xs.length c m B ys.length d] w fun e w' => RetTE w w' e (qtextR n xs m ys) := by
  have M : Mem w (w.alloc (.cells #[.bool n, .slice A xs.length c, .bool m, .slice B ys.length d] 31)) [(w.heap.size, 31, #[.bool n, .slice A xs.length c, .bool m, .slice B ys.length d])] [(B, d, ys), (A, c, xs)] :=
    ((((Mem.start w).addR ha).addR hb).new 31 #[.bool n, .slice A xs.length c, .bool m, .slice B ys.length d])
  have ox := ha.ok
  have oy := hb.ok
  clear ha hb
  rcases Bool.eq_false_or_eq_true (qright n xs m ys) with h | h
  case inr =>
    have HB := Lib.hid h
    unfold qtextR
    rw [h]
    clear h ox oy
    obtain ⟨v1, v2, v3, v4⟩ := (M.k (i := 0) rfl).four
    go_enter Try.func27, Try.ntmps27
    go_wp2_with fail
    refine (qright_any (M.r (i := 1) rfl) (M.r (i := 0) rfl)).mono ?_
    rw [HB.out]
    rintro e z1 ⟨rfl, q⟩
    replace M := M.below q
    clear q v1 v2 v3 v4
    obtain ⟨v1, v2, v3, v4⟩ := (M.k (i := 0) rfl).four
    go_wp2
    exact bodyPost_ret (v := .tuple #[.string ⟨#[]⟩, .int .i64 2]) (by simp [results, Try.results27, go_sem]) rfl ⟨rfl, M.bel⟩
  have HB := Lib.hid h
  unfold qtextR
  rw [if_pos h]
  obtain ⟨h1, h2, h3, h4, h5, h6, h7⟩ := qright_iff.1 h
  have l1 := intS_lenQ ox h1
  have l2 := intS_lenQ oy h2
  have HT1 := Lib.hid (stext_ok h1)
  have HT2 := Lib.hid (stext_ok h2)
  have hI := den_is oy h
  clear h h1 h2 h3 h4 h5 h6 h7 ox oy
  generalize intS (sv n xs) = t1 at *
  generalize intS (sv m ys) = t2 at *
  by_cases hd : ys = [1]
  · have hI2 := hI.trans (decide_eq_true hd)
    rw [if_pos hd]
    have HI := Lib.hid hI2
    clear hI hI2 hd
    obtain ⟨v1, v2, v3, v4⟩ := (M.k (i := 0) rfl).four
    go_enter Try.func27, Try.ntmps27
    go_wp2_with fail
    refine (qright_any (M.r (i := 1) rfl) (M.r (i := 0) rfl)).mono ?_
    rw [HB.out]
    rintro e z1 ⟨rfl, q⟩
    replace M := M.below q
    clear q v1 v2 v3 v4
    obtain ⟨v1, v2, v3, v4⟩ := (M.k (i := 0) rfl).four
    go_wp2_with fail
    refine (stext_any _ A c _ _ (M.r (i := 1) rfl)).mono ?_
    rintro e z2 ⟨rfl, q⟩
    rw [HT1.out]
    replace M := M.below q
    clear q v1 v2 v3 v4
    obtain ⟨v1, v2, v3, v4⟩ := (M.k (i := 0) rfl).four
    go_wp2_with fail
    refine (is_any 1 (M.r (i := 0) rfl)).mono ?_
    rw [HI.out]
    rintro e z3 ⟨rfl, q⟩
    replace M := M.below q
    go_wp2
    exact bodyPost_ret (v := .tuple #[.string ⟨t1.toArray⟩, .int .i64 0]) (by simp [results, Try.results27, go_sem]) rfl ⟨rfl, M.bel⟩
  · have hI2 := hI.trans (decide_eq_false hd)
    rw [if_neg hd]
    have HI := Lib.hid hI2
    clear hI hI2 hd
    obtain ⟨v1, v2, v3, v4⟩ := (M.k (i := 0) rfl).four
    go_enter Try.func27, Try.ntmps27
    go_wp2_with fail
    refine (qright_any (M.r (i := 1) rfl) (M.r (i := 0) rfl)).mono ?_
    rw [HB.out]
    rintro e z1 ⟨rfl, q⟩
    replace M := M.below q
    clear q v1 v2 v3 v4
    obtain ⟨v1, v2, v3, v4⟩ := (M.k (i := 0) rfl).four
    go_wp2_with fail
    refine (stext_any _ A c _ _ (M.r (i := 1) rfl)).mono ?_
    rintro e z2 ⟨rfl, q⟩
    rw [HT1.out]
    replace M := M.below q
    clear q v1 v2 v3 v4
    obtain ⟨v1, v2, v3, v4⟩ := (M.k (i := 0) rfl).four
    go_wp2_with fail
    refine (is_any 1 (M.r (i := 0) rfl)).mono ?_
    rw [HI.out]
    rintro e z3 ⟨rfl, q⟩
    replace M := M.below q
    clear q v1 v2 v3 v4
    obtain ⟨v1, v2, v3, v4⟩ := (M.k (i := 0) rfl).four
    go_wp2_with fail
    refine (stext_any _ B d _ _ (M.r (i := 0) rfl)).mono ?_
    rintro e z4 ⟨rfl, q⟩
    rw [HT2.out]
    replace M := M.below q
    go_wp2
    refine bodyPost_ret (v := .tuple #[.string (((⟨t1.toArray⟩ : ByteArray) ++ ⟨#[47]⟩) ++ ⟨t2.toArray⟩), .int .i64 0]) (by simp [results, Try.results27, go_sem]) rfl ⟨?_, M.bel⟩
    rw [cat47]
end Go.Proofs.Ytdhikpfppbcjkaa

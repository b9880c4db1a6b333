/-
  Joined texts: Wf, Wg.
-/
import Derived.Test.YtpfhgkielakmoaaGreatDoorWe
import Derived.Test.YtpfhgkielakmoaaGreatDoorDab
/-
  ShowBoth.
-/
set_option linter.unusedSimpArgs false
set_option linter.unusedVariables false
namespace Go.Proofs.YtpfhgkielakmoaaGreatDoor
open Go.RowKit Num Go.Joins

/-- A layout whose cells are read in memory that a world w0 had. -/
def Lay.old {α : Type} (L : Lay α) (w0 : World) (S : Nat → Prop) : Lay α := ⟨L.ty, L.sz, fun k => (L.C k).at_ w0 S⟩
theorem row_old {α : Type} {L : Lay α} {w0 w : World} {S F : Nat → Prop} {v : Value} {l : List α} (h : (L.old w0 S).row.P F w v l) (hb : Below w0.heap.size w0 w) : L.row.P (fun _ => True) w v l := by
  obtain ⟨A, c, h1, h2, h3, h4⟩ := h
  refine ⟨A, c, h1, h2, h3, fun hn => ?_⟩
  obtain ⟨b, o, h5, h6, h7, h8⟩ := h4 hn
  refine ⟨b, o, h5, trivial, h7, fun j hj k hk => ?_⟩
  obtain ⟨x, hx, hp⟩ := h8 j hj k hk
  have hp' : (L.C k).P S w0 x l[j] := hp
  exact ⟨x, hx, (L.C k).mono (fun _ _ => trivial) ((L.C k).below hp' hb (Nat.le_refl _))⟩
/-- 'append(v, u...)': v is the call's own row, u any row of older memory. -/
theorem Lay.wp_appOld {α : Type} (L : Lay α) {P : Program} {ops : Array Oper} {rest : List Oper} {o : Oper} {a : Act} {Q : Exit → Act → World → Prop} (s x : Operand) (w0 w : World) (S : Nat → Prop) (base : Nat) (v u : Value) (l m : List α) {sl bytes : Nat} {z : Value}
    (hu : P.underlying sl = some (.slice L.ty)) (hinfo : (P.info? L.ty).map (fun i => (i.zero, i.size, i.bytes)) = some (some z, L.sz, bytes)) (hz : z.cells.size = L.sz) (hpos : 0 < L.sz) (hbt : bytes ≤ 1000)
    (hoc : ∀ k y t, (L.C k).P S w0 t y → t.oneCell' = true)
    (hown : (L.old w0 S).own base w v l) (hm : L.row.P S w0 u m) (hnone : ∀ n c, u = .slice none n c → c = 0) (hb0 : Below w0.heap.size w0 w) (hb : base ≤ w.heap.size) (hlen : l.length ≤ 1000000) (hlen2 : m.length ≤ 1000000)
    (hw : Region.wanted o (yielded ops a.tmps) = true) (ho : o.op = .call { callee := .builtin .append, args := #[s, x], argTypes := #[sl, sl] })
    (hs : a.eval s = v) (hx : a.eval x = u)
    (K : ∀ v' w', (L.old w0 S).own base w' v' (l ++ m) → w.grownBy w' v.ownBlock → Below base w w' → wpList P ops Q rest (a.put o.dst v') w') :
    wpList P ops Q (o :: rest) a w := by
  obtain ⟨xs, h1, h1', h2⟩ := hown
  obtain ⟨i0, hi, hz0, hz1, hz2⟩ := info_parts hinfo
  refine wpList_wanted hw fun KK hKK => ?_
  obtain ⟨A, c, hu0, m2, m3, m4⟩ := hm
  cases A with
  | none =>
    have hm0 : m = [] := by
      cases m with
      | nil => rfl
      | cons y m =>
        obtain ⟨b, o, hbad, _⟩ := m4 (by simp)
        cases hbad
    subst hm0
    have hc0 := hnone _ _ hu0
    subst hc0
    have hrun := run_append_owned_none (P := P) (w := w) base sl o.type L.ty i0 L.sz hu hi v l.length xs h1
    have hu1 : u = .slice none 0 0 := hu0
    unfold Oper.wp
    simp [execOp, ho, resolve, invoke, builtin, hs, hx, hu1, hrun, Result.andThen]
    refine hKK _ _ (K v w ?_ ⟨rfl, rfl, rfl, Nat.le_refl _, fun _ _ _ => rfl⟩ (Below.refl _ _))
    rw [List.append_nil]
    exact ⟨xs, h1, h1', h2⟩
  | some ad =>
    have hnews : ∃ news : List Value, news.length = m.length * L.sz ∧ (∀ j u, news[j]? = some u → w.cell? (ad.add j) = some u) ∧ (∀ u ∈ news, u.oneCell' = true) ∧
        ∀ j (hj : j < m.length), ∀ k, k < L.sz → ∃ x, news[j * L.sz + k]? = some x ∧ (L.C k).P S w0 x m[j] := by
      by_cases hm0 : m = []
      · subst hm0
        exact ⟨[], by simp, fun j u h => by simp at h, fun u h => absurd h List.not_mem_nil, fun j hj => absurd hj (Nat.not_lt_zero _)⟩
      · obtain ⟨b, oo, hA, _, hlt, hcell⟩ := m4 hm0
        injection hA with hA
        subst hA
        have hat : ∀ i, i < m.length * L.sz → ∃ y, w.cell? ⟨b, oo + i, none⟩ = some y ∧ ∃ (h : i / L.sz < m.length), (L.C (i % L.sz)).P S w0 y m[i / L.sz] := fun i hi => by
          have hd : i / L.sz < m.length := Nat.div_lt_of_lt_mul (by rw [Nat.mul_comm]; exact hi)
          obtain ⟨y, hy, hp⟩ := hcell (i / L.sz) hd (i % L.sz) (Nat.mod_lt _ hpos)
          have e : i / L.sz * L.sz + i % L.sz = i := by rw [Nat.mul_comm]; exact Nat.div_add_mod i L.sz
          rw [Nat.add_assoc, e] at hy
          exact ⟨y, (hb0.cell (p := ⟨b, oo + i, none⟩) hlt).trans hy, hd, hp⟩
        refine ⟨(List.range (m.length * L.sz)).map fun i => (w.cell? ⟨b, oo + i, none⟩).getD undef, by simp, fun j u h => ?_, fun u hu => ?_, fun j hj k hk => ?_⟩
        · rw [List.getElem?_map] at h
          obtain ⟨i, hi, rfl⟩ := Option.map_eq_some_iff.1 h
          obtain ⟨hil, hie⟩ := List.getElem?_eq_some_iff.1 hi
          simp at hil hie
          subst hie
          obtain ⟨y, hy, _⟩ := hat j hil
          rw [show (⟨b, oo, none⟩ : Addr).add j = ⟨b, oo + j, none⟩ by simp [Addr.add], hy]
          rfl
        · obtain ⟨i, hi, rfl⟩ := List.mem_map.1 hu
          obtain ⟨y, hy, _, hp⟩ := hat i (List.mem_range.1 hi)
          rw [hy]
          exact hoc _ _ _ hp
        · have hlt2 : j * L.sz + k < m.length * L.sz := by
            have : (j + 1) * L.sz ≤ m.length * L.sz := Nat.mul_le_mul_right _ hj
            rw [Nat.add_mul, Nat.one_mul] at this
            omega
          obtain ⟨y, hy, hp⟩ := hcell j hj k hk
          have hy2 := (hb0.cell (p := ⟨b, oo + j * L.sz + k, none⟩) hlt).trans hy
          refine ⟨y, ?_, hp⟩
          rw [List.getElem?_map, List.getElem?_range hlt2]
          simp [← Nat.add_assoc, hy2]
    obtain ⟨news, ml, hcell, m1', m5⟩ := hnews
    obtain ⟨v', w', hr, r1, r2, _, r3⟩ := run_append_own_at (P := P) w base sl o.type L.ty i0 z L.sz bytes hu hi hz0 hz1 hz2 hz hpos v l.length xs h1 ad m.length c news ml hcell m1' (by unfold maxLen; omega) (Nat.le_trans (Nat.mul_le_mul_left _ hbt) (by omega)) hb
    unfold Oper.wp execOp
    simp only [ho, resolve, invoke, builtin, Sem.run_bind, Sem.run_pure, Result.andThen_ok, List.map_toArray, List.map_cons, List.map_nil, hs, hx, hu0, hr]
    refine hKK _ _ (K v' w' ⟨xs ++ news, by rw [List.length_append]; exact r1, fun u hu => ?_, fun j hj k hk => ?_⟩ r2 ((Below.refl base w).grown r2 hb (fun k hk => (World.ownsRow.lt h1 k hk).1)))
    · rcases List.mem_append.1 hu with hu | hu
      · exact h1' u hu
      · exact m1' u hu
    · have hxl : xs.length = l.length * L.sz := h1.1
      have hk' : k < L.sz := hk
      by_cases hjl : j < l.length
      · obtain ⟨u, hu, hp⟩ := h2 j hjl k hk
        have hu' : xs[j * L.sz + k]? = some u := hu
        refine ⟨u, ?_, ?_⟩
        · show (xs ++ news)[j * L.sz + k]? = _
          rw [List.getElem?_append_left (by
            have : (j + 1) * L.sz ≤ l.length * L.sz := Nat.mul_le_mul_right _ hjl
            rw [Nat.add_mul, Nat.one_mul] at this
            omega)]
          exact hu'
        · rw [List.getElem_append_left hjl]
          exact hp
      · have hj2 : j - l.length < m.length := by rw [List.length_append] at hj; omega
        obtain ⟨u, hu, hp⟩ := m5 (j - l.length) hj2 k hk'
        refine ⟨u, ?_, ?_⟩
        · show (xs ++ news)[j * L.sz + k]? = _
          have e : j * L.sz + k = l.length * L.sz + ((j - l.length) * L.sz + k) := by
            rw [← Nat.add_assoc, ← Nat.add_mul]
            congr 2
            omega
          rw [e, List.getElem?_append_right (by omega), hxl, Nat.add_sub_cancel_left]
          exact hu
        · rw [List.getElem_append_right (by omega)]
          exact hp
theorem one_layI {ty te : TypeId} {S : Nat → Prop} {w0 : World} : ∀ k y t, ((layI ty te).C k).P S w0 t y → t.oneCell' = true := fun k y t h => by
  match k with
  | 0 => obtain rfl : t = _ := h; rfl
  | 1 => obtain rfl : t = _ := h; rfl
  | 2 => obtain rfl : t = _ := h; rfl
  | 3 => obtain ⟨A, c, rfl, _⟩ := h; rfl
  | 4 => obtain rfl : t = _ := h; rfl
  | 5 => obtain rfl : t = _ := h; rfl
  | 6 => obtain ⟨A, c, rfl, _⟩ := h; rfl
  | _ + 7 => obtain rfl : t = _ := h; rfl
theorem showL_short (l : List It) : (showL l).1.length ≤ 8192 := by
  rcases showL_cases l with h | h | h
  · have := showL_len (l := l) (by rw [h])
    rw [h]
    exact this
  · rw [h]
    exact Nat.zero_le _
  · rw [h]
    exact Nat.zero_le _
end Go.Proofs.YtpfhgkielakmoaaGreatDoor
/-
  ShowBoth.
-/
set_option linter.unusedSimpArgs false
set_option linter.unusedVariables false
namespace Go.Proofs.YtpfhgkielakmoaaGreatDoor
open Go.RowKit Num Go.Joins

theorem all_show2 {F : Nat → Prop} (A : Option Addr) (c : Nat) (l L : List It) (hL : l.map It.flat = L) (w0 w : World) (hE : Env w) (h0 : (layI 28 50).row.P F w0 (.slice A l.length c) l) (hw0 : Below w0.heap.size w0 w) (hr : ∀ x ∈ l, RngI x) (hn : l.length ≤ 1000) (hf : ∀ x ∈ l, FewP x) :
    Calls Tryz.prog 10 #[.slice A l.length c] w fun e w' => (∃ B d, e = .returned (.slice B L.length d) ∧ (layIat w0 F 47 102).own w.heap.size w' (.slice B L.length d) L ∧
      Hid (Calls Tryz.prog 9 #[.slice B L.length d] w' fun e2 w2 => e2 = .returned (.tuple #[.string ⟨(showL L).1.toArray⟩, .int .i64 (showL L).2]) ∧ Below w'.heap.size w' w2)) ∧ Below w.heap.size w w' := by
  subst hL
  exact all_show A c l w0 w hE h0 hw0 hr hn hf
set_option maxRecDepth 100000 in
set_option maxHeartbeats 16000000 in
theorem showBoth_use (w : World) (hE : Env w) (A : Option Addr) (la : List It) (c : Nat) (ha : (layI 28 50).row.P (fun _ => True) w (.slice A la.length c) la) (hra : ∀ x ∈ la, RngI x) (hna : A = none → c = 0)
    (B : Option Addr) (lb : List It) (d : Nat) (hb : (layI 28 50).row.P (fun _ => True) w (.slice B lb.length d) lb) (hrb : ∀ x ∈ lb, RngI x) (hnb : B = none → d = 0) :
    Calls Tryz.prog 6 #[.slice A la.length c, .slice B lb.length d] w fun e w' => e = .returned (.bool true) ∧ Below w.heap.size w w' := by
  by_cases h1 : 50 < la.length
  · have d1 : decide ((50 : Int) < (la.length : Int)) = true := decide_eq_true (by omega)
    clear ha hb hra hrb hna hnb
    go_enter Tryz.func6, Tryz.ntmps6
    go_wp2_with fail
    refine (alive7_any w hE).mono ?_
    rintro e w1 ⟨rfl, q1⟩
    go_wp2_with fail
    go_ret
    exact ⟨rfl, q1⟩
  have d1 : decide ((50 : Int) < (la.length : Int)) = false := decide_eq_false (by omega)
  by_cases h2 : 50 < lb.length
  · have d2 : decide ((50 : Int) < (lb.length : Int)) = true := decide_eq_true (by omega)
    clear ha hb hra hrb hna hnb
    go_enter Tryz.func6, Tryz.ntmps6
    go_wp2_with fail
    refine (alive7_any w hE).mono ?_
    rintro e w1 ⟨rfl, q1⟩
    go_wp2_with fail
    go_ret
    exact ⟨rfl, q1⟩
  have d2 : decide ((50 : Int) < (lb.length : Int)) = false := decide_eq_false (by omega)
  have hl1 : la.length ≤ 50 := Nat.le_of_not_lt h1
  have hl2 : lb.length ≤ 50 := Nat.le_of_not_lt h2
  have HA := Lib.hid ha
  have HB := Lib.hid hb
  have HRA := Lib.hid hra
  have HRB := Lib.hid hrb
  have HNA : Hid (∀ n k, (Value.slice A la.length c) = .slice none n k → k = 0) := fun n k e => by
    injection e with e1 _ e3
    rw [← e3]
    exact hna e1
  have HNB : Hid (∀ n k, (Value.slice B lb.length d) = .slice none n k → k = 0) := fun n k e => by
    injection e with e1 _ e3
    rw [← e3]
    exact hnb e1
  obtain ⟨l, hl⟩ : ∃ l, la ++ lb = l := ⟨_, rfl⟩
  have hll : l.length ≤ 100 := by rw [← hl, List.length_append]; omega
  have HFA : Hid (∀ y ∈ la, y ∈ l) := fun y hy => by rw [← hl]; exact List.mem_append_left _ hy
  have HFB : Hid (∀ y ∈ lb, y ∈ l) := fun y hy => by rw [← hl]; exact List.mem_append_right _ hy
  have HLL := Lib.hid hl
  clear hl
  have hla6 : la.length ≤ 1000000 := by omega
  have hlb6 : lb.length ≤ 1000000 := by omega
  clear ha hb hra hrb hna hnb h1 h2
  go_enter Tryz.func6, Tryz.ntmps6
  go_wp2_with fail
  refine (alive7_any w hE).mono ?_
  rintro e w1 ⟨rfl, q1⟩
  have hs1 := q1.size
  have o0 := Lay.own_nil ((layI 28 50).old w (fun _ => True)) w.heap.size w1
  go_wp2_with (at_builtin; first | (refine Lay.wp_appOld (layI 28 50) _ _ w w1 (fun _ => True) w.heap.size _ _ [] la Tryz.underlying22 info_ritem rfl (Nat.zero_lt_succ _) (by decide) one_layI o0 HA.out HNA.out q1 hs1 (by decide) hla6 rfl rfl rfl rfl ?_; intro v2 w2 o2 g2 b2; rw [List.nil_append] at o2; obtain ⟨A2, c2, hv2⟩ := Lay.own_len o2; subst hv2; have q2 := q1.trans b2; have hs2 := q2.size; clear o0 g2) | (refine Lay.wp_appOld (layI 28 50) _ _ w w2 (fun _ => True) w.heap.size _ _ la lb Tryz.underlying22 info_ritem rfl (Nat.zero_lt_succ _) (by decide) one_layI o2 HB.out HNB.out q2 hs2 hla6 hlb6 rfl rfl rfl rfl ?_; intro v3 w3 o3 g3 b3; rw [HLL.out] at o3; obtain ⟨A3, c3, hv3⟩ := Lay.own_len o3; subst hv3))
  have q3 := q2.trans b3
  have HR3 := Lib.hid (row_old (Lay.own_row o3) q3)
  clear o2 o3 g3 b2 b3 q1 q2
  go_loopg [28] l.length (fun k a wr => ∃ (j : Nat), k = l.length - j ∧ j ≤ l.length ∧ a = .int .i64 (j : Nat) ∧ (∀ y ∈ l.take j, FewP y) ∧ Below w3.heap.size w3 wr)
  case atStart => exact ⟨0, rfl, Nat.zero_le _, rfl, (by intro y hy; cases hy), Below.refl _ _⟩
  case round =>
    obtain ⟨j, hk, hj, rfl, hall, hbl⟩ := hrel
    by_cases hlt : j < l.length
    · have d3 : decide ((j : Int) < (l.length : Int)) = true := decide_eq_true (by omega)
      obtain ⟨b, o, hA, hb1, hc⟩ := row_it (Dt.below _ HR3.out hbl (Nat.le_refl _)) (lt_ne hlt)
      obtain ⟨f0, f1, f2, f4, f5, f7, ⟨A4, n4, f3, -⟩, A6, n6, f6, hxv⟩ := hc j hlt
      subst hA
      have HAL := Lib.hid hall
      have HT := Lib.hid (take_snoc hlt)
      have HFW := Lib.hid (fun (w' : World) (q : Below wr.heap.size wr w') => few_any l[j] A4 n4 A6 n6 w' (Dt.below _ hxv q (Nat.le_refl _)))
      clear hc hall hxv
      generalize l[j] = x at *
      have HX : Hid (FewP x → ∀ y ∈ l.take (j + 1), FewP y) := by
        intro hx
        rw [HT.out]
        intro y hy
        rcases List.mem_append.1 hy with hy | hy
        · exact HAL.out y hy
        · rw [List.mem_singleton.1 hy]
          exact hx
      obtain ⟨xk, xn, xb, xd, xz, xo, xv, xa⟩ := x
      dsimp only at f0 f1 f2 f3 f4 f5 f6 f7 HFW
      have qa := below_alloc1 wr (.cells #[.int .i64 xk, .string ⟨xn.toArray⟩, .bool xb, .slice A4 xd.length n4, .int .i64 xz, .bool xo, .slice A6 xv.length n6, .int .i64 xa] 28)
      go_wp2_with fail
      refine (HFW.out _ qa).mono ?_
      rintro e w4 ⟨⟨r, rfl, hrf⟩, q4⟩
      have hbl2 := below_trans (below_trans hbl qa) q4
      clear f0 f1 f2 f3 f4 f5 f6 f7 HFW qa q4
      cases r with
      | false =>
        go_wp2_with fail
        go_ret
        exact ⟨rfl, q3.trans (hbl2.mono q3.size)⟩
      | true =>
        have HX2 := Lib.hid (HX.out (hrf rfl))
        clear hrf
        go_wp2_with fail
        go_roundg (l.length - (j + 1))
        case measure => omega
        case rel => exact ⟨j + 1, rfl, by omega, by simp, HX2.out, hbl2⟩
    · have d3 : decide ((j : Int) < (l.length : Int)) = false := decide_eq_false (by omega)
      have e1 : l.take j = l := List.take_of_length_le (by omega)
      rw [e1] at hall
      have HFWA : Hid (∀ x ∈ la, FewP x) := fun x hx => hall x (HFA.out x hx)
      have HFWB : Hid (∀ x ∈ lb, FewP x) := fun x hx => hall x (HFB.out x hx)
      have q4 := q3.trans (hbl.mono q3.size)
      obtain ⟨LA, hLA⟩ : ∃ LA, la.map It.flat = LA := ⟨_, rfl⟩
      obtain ⟨LB, hLB⟩ : ∃ LB, lb.map It.flat = LB := ⟨_, rfl⟩
      have hlA : LA.length ≤ 50 := by rw [← hLA, List.length_map]; exact hl1
      have hlB : LB.length ≤ 50 := by rw [← hLB, List.length_map]; exact hl2
      have HRLA : Hid (∀ x ∈ LA, RngI x ∧ x.name.length ≤ 100) := fun x hx => by
        rw [← hLA] at hx
        obtain ⟨y, hy, rfl⟩ := List.mem_map.1 hx
        exact ⟨rngI_flat (HRA.out y hy), (HFWA.out y hy).1⟩
      have HRLB : Hid (∀ x ∈ LB, RngI x ∧ x.name.length ≤ 100) := fun x hx => by
        rw [← hLB] at hx
        obtain ⟨y, hy, rfl⟩ := List.mem_map.1 hx
        exact ⟨rngI_flat (HRB.out y hy), (HFWB.out y hy).1⟩
      have HLA := Lib.hid hLA
      have HLB := Lib.hid hLB
      have hplain := show_both (a := LA) (b := LB) (fun x hx => (HRLA.out x hx).1) (fun x hx => (HRLB.out x hx).1) hlA hlB
      obtain ⟨LC, hLC⟩ : ∃ LC, LA ++ LB = LC := ⟨_, rfl⟩
      rw [hLC] at hplain
      have HLC := Lib.hid hLC
      clear hLC
      have HP := Lib.hid hplain
      clear hall hplain hbl HR3 HLL q3 hLA hLB
      generalize hwr : wr = w4 at *
      clear hwr
      go_wp2_with fail
      refine (all_show2 A c la LA HLA.out w w4 (hE.below q4) HA.out q4 HRA.out (by omega) HFWA.out).mono ?_
      rintro e w5 ⟨⟨B5, c5, rfl, -, hsh5⟩, q5⟩
      have b5 := below_trans q4 q5
      go_wp2_with fail
      refine hsh5.out.mono ?_
      rintro e w6 ⟨rfl, q6⟩
      have b6 := below_trans b5 q6
      clear hsh5 q5 q6
      go_wp2_with fail
      refine (all_show2 B d lb LB HLB.out w w6 (hE.below b6) HB.out b6 HRB.out (by omega) HFWB.out).mono ?_
      rintro e w7 ⟨⟨B7, c7, rfl, -, hsh7⟩, q7⟩
      have b7 := below_trans b6 q7
      go_wp2_with fail
      refine hsh7.out.mono ?_
      rintro e w8 ⟨rfl, q8⟩
      have b8 := below_trans b7 q8
      clear hsh7 q7 q8 b5 b6 b7
      go_wp2_with fail
      refine (all_show2 A c la LA HLA.out w w8 (hE.below b8) HA.out b8 HRA.out (by omega) HFWA.out).mono ?_
      rintro e w9 ⟨⟨B9, c9, rfl, o9, -⟩, q9⟩
      have b9 := below_trans b8 q9
      go_wp2_with fail
      refine (all_show2 B d lb LB HLB.out w w9 (hE.below b9) HB.out b9 HRB.out (by omega) HFWB.out).mono ?_
      rintro e w10 ⟨⟨B10, c10, rfl, o10, -⟩, q10⟩
      have b10 := below_trans b9 q10
      have o9' := Lay.own_below o9 q10
      have hs9 : w8.heap.size ≤ w9.heap.size := q9.size
      have hs10 : w8.heap.size ≤ w10.heap.size := Nat.le_trans q9.size q10.size
      have H9 : Hid (∀ g, (Value.slice B9 LA.length c9).ownBlock = some g → g < w9.heap.size) := fun g hg => (Lay.own_lt o9 g hg).2
      have hn1 : LA.length ≤ 1000000 := by omega
      have hn2 : LB.length ≤ 1000000 := by omega
      clear o9
      go_wp2_with (at_builtin; refine Lay.wp_app2 (layIat w (fun _ => True) 47 102) _ _ w10 w8.heap.size w9.heap.size _ _ LA LB Tryz.underlying32 info_pitem rfl (Nat.zero_lt_succ _) (by decide) o9' o10 hs9 H9.out hs10 hn1 hn2 rfl rfl rfl rfl ?_; intro v11 w11 o11 g11 b11; rw [HLC.out] at o11)
      obtain ⟨A11, c11, hv11⟩ := Lay.own_len o11
      subst hv11
      have qq := (below_trans q9 q10).trans b11
      have bb11 := below_trans b8 qq
      have r11 := row_now (Lay.own_row o11) bb11
      have hS := vshow_any A11 c11 LC w11 (hE.below bb11) r11 (fun x hx => by
        rw [← HLC.out] at hx
        rcases List.mem_append.1 hx with hx | hx
        · exact (HRLA.out x hx).1
        · exact (HRLB.out x hx).1) (fun x hx => by
        rw [← HLC.out] at hx
        rcases List.mem_append.1 hx with hx | hx
        · have := (HRLA.out x hx).2
          omega
        · have := (HRLB.out x hx).2
          omega)
      have HS := Lib.hid hS
      clear hS o9' o10 o11 g11 b11 r11 qq H9 q9 q10 b9 b10
      have sa := showL_short LA
      have sb := showL_short LB
      generalize showL LA = ra at *
      generalize showL LB = rb at *
      generalize showL LC = rc at *
      obtain ⟨ta, ea⟩ := ra
      obtain ⟨tb, eb⟩ := rb
      obtain ⟨tc, ec⟩ := rc
      dsimp only [TEV] at *
      go_wp2_with fail
      refine HS.out.mono ?_
      rintro e w12 ⟨rfl, q12⟩
      have b12 := below_trans bb11 q12
      clear HS
      obtain ⟨p1, p2⟩ := HP.out
      clear HP
      by_cases hea : ea = 0
      · subst hea
        by_cases heb : eb = 0
        · subst heb
          rcases p2 rfl rfl with h3 | ⟨h0, hcc⟩
          · subst h3
            clear p1 p2
            go_wp2_with fail
            go_ret
            exact ⟨rfl, b12⟩
          · subst h0
            have hU : (⟨tc.toArray⟩ : ByteArray) = ⟨ta.toArray⟩ ++ ⟨tb.toArray⟩ := by
              rw [hcc]
              apply ByteArray.ext
              simp
            have za : (⟨ta.toArray⟩ : ByteArray).size ≤ 8192 := sa
            have zb : (⟨tb.toArray⟩ : ByteArray).size ≤ 8192 := sb
            rw [hU]
            clear hU p1 p2 hcc
            generalize (⟨ta.toArray⟩ : ByteArray) = X at *
            generalize (⟨tb.toArray⟩ : ByteArray) = Y at *
            have hz : ¬ 9223372036854775807 < X.size + Y.size := by omega
            clear za zb sa sb
            go_wp2_with fail
            go_ret
            exact ⟨rfl, b12⟩
        · have hc := p1 (Or.inr heb)
          have n1 : (eb != 0) = true := ne_bool heb
          have n2 : (ec != 0) = true := ne_bool hc
          clear p1 p2 heb hc
          go_wp2_with fail
          go_ret
          exact ⟨rfl, b12⟩
      · have hc := p1 (Or.inl hea)
        have n1 : (ea != 0) = true := ne_bool hea
        have n2 : (ec != 0) = true := ne_bool hc
        clear p1 p2 hea hc
        go_wp2_with fail
        go_ret
        exact ⟨rfl, b12⟩
end Go.Proofs.YtpfhgkielakmoaaGreatDoor

/-
  Rows of the call's own, one behind the other.
-/
import Derived.Test.YtpfhgkielakmoaaDoorDat
import Derived.Laws.OwnMore
set_option linter.unusedSimpArgs false
set_option linter.unusedVariables false
namespace Go.Proofs.YtpfhgkielakmoaaDoor
open Go.RowKit

/-- 'append(a, b...)': both are the call's own rows, b made behind a. -/
theorem Lay.wp_app2 {α : Type} (L : Lay α) {P : Program} {ops : Array Oper} {rest : List Oper} {o : Oper} {a : Act} {Q : Exit → Act → World → Prop} (s x : Operand) (w : World) (base base2 : Nat) (v u : Value) (l m : List α) {sl bytes : Nat} {z : Value}
    (hu : P.underlying sl = some (.slice L.ty)) (hinfo : (P.info? L.ty).map (fun i => (i.zero, i.size, i.bytes)) = some (some z, L.sz, bytes)) (hz : z.cells.size = L.sz) (hpos : 0 < L.sz) (hbt : bytes ≤ 1000)
    (hown : L.own base w v l) (hm : L.own base2 w u m) (hbb : base ≤ base2) (hv2 : ∀ g, v.ownBlock = some g → g < base2) (hb : base ≤ w.heap.size) (hlen : l.length ≤ 1000000) (hlen2 : m.length ≤ 1000000)
    (hw : Region.wanted o (yielded ops a.tmps) = true) (ho : o.op = .call { callee := .builtin .append, args := #[s, x], argTypes := #[sl, sl] })
    (hs : a.eval s = v) (hx : a.eval x = u)
    (K : ∀ v' w', L.own base w' v' (l ++ m) → w.grownBy w' v.ownBlock → Below base w w' → wpList P ops Q rest (a.put o.dst v') w') :
    wpList P ops Q (o :: rest) a w := by
  obtain ⟨xs, h1, h1', h2⟩ := hown
  obtain ⟨ys, m1, m1', m2⟩ := hm
  obtain ⟨i0, hi, hz0, hz1, hz2⟩ := info_parts hinfo
  refine wpList_wanted hw fun KK hKK => ?_
  obtain ⟨ml, m3⟩ := m1
  rcases m3 with ⟨hu0, hl0⟩ | ⟨g, cap, cur, hu0, hg, hbk, hn, hc, hsz, htk⟩
  · obtain rfl : m = [] := List.length_eq_zero_iff.1 hl0
    subst hu0
    have hrun := run_append_owned_none (P := P) (w := w) base sl o.type L.ty i0 L.sz hu hi v l.length xs h1
    unfold Oper.wp
    simp [execOp, ho, resolve, invoke, builtin, hs, hx, hrun, Result.andThen]
    refine hKK _ _ (K v w ?_ ⟨rfl, rfl, rfl, Nat.le_refl _, fun _ _ _ => rfl⟩ (Below.refl _ _))
    rw [List.append_nil]
    exact ⟨xs, h1, h1', h2⟩
  · subst hu0
    have hcell : ∀ j u, ys[j]? = some u → w.cell? ((⟨g, 0, none⟩ : Addr).add j) = some u := by
      intro j u hj
      have hjl : j < ys.length := (List.getElem?_eq_some_iff.1 hj).1
      rw [show (⟨g, 0, none⟩ : Addr).add j = ⟨g, j, none⟩ by simp [Addr.add]; exact fun e => e.symm, cell_of_row w g _ cur L.ty (0, 0) hbk, ← hj, ← htk, List.getElem?_take_of_lt (by omega)]
      simp
    obtain ⟨v', w', hr, r1, r2, _, r3⟩ := run_append_own_at (P := P) w base sl o.type L.ty i0 z L.sz bytes hu hi hz0 hz1 hz2 hz hpos v l.length xs h1 ⟨g, 0, none⟩ m.length cap ys ml hcell m1' (by unfold maxLen; omega) (Nat.le_trans (Nat.mul_le_mul_left _ hbt) (by omega)) hb
    unfold Oper.wp execOp
    simp only [ho, resolve, invoke, builtin, Sem.run_bind, Sem.run_pure, Result.andThen_ok, List.map_toArray, List.map_cons, List.map_nil, hs, hx, hr]
    have hF : ∀ b, inF base w v b → inF base w' v' b := fun b hb => ⟨hb.1, Nat.lt_of_lt_of_le hb.2.1 r2.size, fun e => by
      rcases r3 with e2 | e2
      · exact hb.2.2 (e2.symm.trans e)
      · rw [e2] at e
        injection e with e
        have := hb.2.1
        omega⟩
    have hF2 : ∀ b, inF base2 w (.slice (some ⟨g, 0, none⟩) m.length cap) b → inF base w' v' b := fun b hb => ⟨Nat.le_trans hbb hb.1, Nat.lt_of_lt_of_le hb.2.1 r2.size, fun e => by
      have := hb.1
      have := hb.2.1
      rcases r3 with e2 | e2
      · have := hv2 b (e2.symm.trans e)
        omega
      · rw [e2] at e
        injection e with e
        omega⟩
    refine hKK _ _ (K v' w' ⟨xs ++ ys, by rw [List.length_append]; exact r1, fun u hu => ?_, fun j hj k hk => ?_⟩ r2 ((Below.refl base w).grown r2 hb (fun k hk => (World.ownsRow.lt h1 k hk).1)))
    · rcases List.mem_append.1 hu with hu | hu
      · exact h1' u hu
      · exact m1' u hu
    · have hxl : xs.length = l.length * L.sz := h1.1
      by_cases hjl : j < l.length
      · obtain ⟨u, hu, hp⟩ := h2 j hjl k hk
        refine ⟨u, ?_, ?_⟩
        · rw [List.getElem?_append_left (by
            have : (j + 1) * L.sz ≤ l.length * L.sz := Nat.mul_le_mul_right _ hjl
            rw [Nat.add_mul, Nat.one_mul] at this
            omega)]
          exact hu
        · rw [List.getElem_append_left hjl]
          exact (L.C k).mono hF ((L.C k).grown hp r2 fun b hb e => hb.2.2 e.symm)
      · have hj2 : j - l.length < m.length := by rw [List.length_append] at hj; omega
        obtain ⟨u, hu, hp⟩ := m2 (j - l.length) hj2 k hk
        refine ⟨u, ?_, ?_⟩
        · have e : j * L.sz + k = l.length * L.sz + ((j - l.length) * L.sz + k) := by
            rw [← Nat.add_assoc, ← Nat.add_mul]
            congr 2
            omega
          rw [e, List.getElem?_append_right (by omega), hxl, Nat.add_sub_cancel_left]
          exact hu
        · rw [List.getElem_append_right (by omega)]
          exact (L.C k).mono hF2 ((L.C k).grown hp r2 fun b hb e => by
            have := hv2 b e.symm
            have := hb.1
            omega)
end Go.Proofs.YtpfhgkielakmoaaDoor

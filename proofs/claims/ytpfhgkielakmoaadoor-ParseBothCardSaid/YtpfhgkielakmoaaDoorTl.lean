/-
  The law's turns of tokens, and lex.Join.
-/
import Derived.Test.YtpfhgkielakmoaaDoorTk
set_option linter.unusedSimpArgs false
set_option linter.unusedVariables false
namespace Go.Proofs.YtpfhgkielakmoaaDoor
open Go.RowKit Num

theorem take_snoc {α : Type} {l : List α} {j : Nat} (h : j < l.length) : l.take (j + 1) = l.take j ++ [l[j]] := List.take_succ_eq_append_getElem h
theorem info_str : (Tryd.prog.info? 9).map (fun i => (i.zero, i.size, i.bytes)) = some (some (.string ⟨#[]⟩), 1, 16) := by kernel_rfl
def OwnS (w : World) (base : Nat) (v : Value) (ts : List ByteArray) : Prop := w.ownsRow base 9 1 v ts.length (ts.map .string)
/-- 'append(words, t)' on a row of strings of the call's own. -/
theorem wp_appS {ops : Array Oper} {rest : List Oper} {o : Oper} {a : Act} {Q : Exit → Act → World → Prop} (s x : Operand) (w : World) (base : Nat) (v : Value) (l : List ByteArray) (t : ByteArray) {N : Nat} (hN : N = w.heap.size)
    (hown : OwnS w base v l) (hb : base ≤ w.heap.size) (hlen : l.length ≤ 1000000)
    (hgd : o.guard = none) (ho : o.op = .call { callee := .builtin .append, args := #[s, x], argTypes := #[65, 65] })
    (hs : a.eval s = v) (hx : a.eval x = .slice (some ⟨N, 0, none⟩) 1 1)
    (K : ∀ v' w', OwnS w' base v' (l ++ [t]) → w.grownBy w' v.ownBlock → Below base w w' → wpList Tryd.prog ops Q rest (a.put o.dst v') w') :
    wpList Tryd.prog ops Q (o :: rest) a (w.alloc (.cells #[.string t] 9)) := by
  subst hN
  obtain ⟨i0, hi, hz0, hz1, hz2⟩ := info_parts info_str
  have hsz : (w.alloc (.cells #[.string t] 9)).heap.size = w.heap.size + 1 := by simp
  have hk := Blk.new w 9 #[.string t]
  refine wpList_append_own _ hgd s x 65 ho base 9 i0 _ 1 16 Tryd.underlying65 hi hz0 hz1 hz2 rfl (by decide) v l.length (l.map .string) hs (World.ownsRow.alloc hown _) ⟨w.heap.size, 0, none⟩ 1 1 [.string t] hx rfl
    ?_ ?_ ?_ ?_ ?_ ?_
  · intro j y hj
    rw [show (⟨w.heap.size, 0, none⟩ : Addr).add j = ⟨w.heap.size, j, none⟩ by simp [Addr.add]; exact fun e => e.symm]
    rw [hk.cell j]
    rw [← hj]
    simp
  · intro y hy
    simp only [List.mem_cons, List.not_mem_nil, or_false] at hy
    subst hy
    rfl
  · unfold maxLen; omega
  · omega
  · rw [hsz]; omega
  · intro v' w' h1 h2 _
    have hg : w.grownBy w' v.ownBlock := ⟨h2.os, h2.tape, h2.output, by have := h2.size; rw [hsz] at this; omega, fun k hk hne => by
      rw [h2.block k (by rw [hsz]; omega) hne]
      exact Below.heap_alloc w _ k hk⟩
    refine K v' w' ?_ hg ?_
    · unfold OwnS
      rw [List.map_append, List.length_append]
      exact h1
    · refine (Below.refl base w).grown hg hb (fun k hk => (World.ownsRow.lt hown k hk).1)
theorem join_eq (ts : List (List UInt8)) : Lib.join ts [32] = joinR ts := by
  unfold Lib.join
  induction ts with
  | nil => rfl
  | cons a ts ih =>
    cases ts with
    | nil => simp [List.intercalate, joinR]
    | cons b r =>
      have e2 : joinR (a :: b :: r) = a ++ 32 :: joinR (b :: r) := rfl
      rw [e2, ← ih]
      simp [List.intercalate]
theorem joinR_len (n : Nat) (ts : List (List UInt8)) (h : ∀ t ∈ ts, t.length ≤ n) : (joinR ts).length ≤ (n + 1) * ts.length := by
  induction ts with
  | nil => exact Nat.zero_le _
  | cons a ts ih =>
    have h1 := h a (List.mem_cons_self)
    cases ts with
    | nil => show a.length ≤ (n + 1) * 1; omega
    | cons b r =>
      have e2 : joinR (a :: b :: r) = a ++ 32 :: joinR (b :: r) := rfl
      have h2 := ih (fun t ht => h t (List.mem_cons_of_mem _ ht))
      rw [e2, List.length_append, List.length_cons]
      rw [List.length_cons] at h2 ⊢
      rw [List.length_cons, Nat.mul_add, Nat.mul_one]
      omega
def txt (t : Tok) : ByteArray := ⟨t.t.toArray⟩
set_option maxRecDepth 100000 in
set_option maxHeartbeats 4000000 in
theorem ljoin_big (A : Option Addr) (c : Nat) (l : List Tok) (w : World) (h : RdT w A c l) (hn : l.length ≤ 10000) (hs : ∀ t ∈ l, t.t.length ≤ 10000) :
    Calls Tryd.prog 13 #[.slice A l.length c] w fun e w' => e = .returned (.string ⟨(joinR (l.map (·.t))).toArray⟩) ∧ Below w.heap.size w w' := by
  have HS := Lib.hid hs
  clear hs
  go_enter Tryd.func13, Tryd.ntmps13
  go_wp2_with fail
  go_loopg [3, 8] l.length (fun k v a wr => ∃ j, k = l.length - j ∧ j ≤ l.length ∧ a = .int .i64 (j : Nat) ∧ OwnS wr w.heap.size v ((l.take j).map txt) ∧ Below w.heap.size w wr)
  case atStart => exact ⟨0, rfl, Nat.zero_le _, rfl, World.ownsRow_nil _ _ _ _, Below.refl _ _⟩
  case round =>
    obtain ⟨j, hk, hj, rfl, ho, hb⟩ := hrel
    by_cases hlt : j < l.length
    · have d1 : decide ((j : Int) < (l.length : Int)) = true := decide_eq_true (by omega)
      have hw := h.below hb (Nat.le_refl _)
      obtain ⟨b, o, hA, hbl, hc⟩ := hw.at_ (by intro e; rw [e] at hlt; cases hlt)
      obtain ⟨c1, c2, c3, c4⟩ := hc j hlt
      have hs := congrArg (List.map txt) (take_snoc hlt)
      rw [List.map_append] at hs
      have HT := Lib.hid hs
      have hlen : ((l.take j).map txt).length ≤ 1000000 := by rw [List.length_map, List.length_take]; omega
      have hb2 := below_trans hb (below_alloc1 wr (.cells #[.int .i64 l[j].k, .string ⟨l[j].t.toArray⟩, .int .i64 l[j].v, .int .i64 l[j].at_] 36))
      have ho2 : OwnS _ _ _ _ := World.ownsRow.alloc ho (.cells #[.int .i64 l[j].k, .string ⟨l[j].t.toArray⟩, .int .i64 l[j].v, .int .i64 l[j].at_] 36)
      have hbs : w.heap.size ≤ (wr.alloc (.cells #[.int .i64 l[j].k, .string ⟨l[j].t.toArray⟩, .int .i64 l[j].v, .int .i64 l[j].at_] 36)).heap.size := hb2.size
      clear hs hw hc
      subst hA
      go_wp2_with (at_builtin; refine wp_appS _ _ (wr.alloc (.cells #[.int .i64 l[j].k, .string ⟨l[j].t.toArray⟩, .int .i64 l[j].v, .int .i64 l[j].at_] 36)) w.heap.size _ ((l.take j).map txt) ⟨l[j].t.toArray⟩ (by first | rfl | simp) ho2 hbs hlen rfl rfl rfl rfl ?_; intro v' w7 ho7 hg7 hb7)
      go_roundg (l.length - (j + 1))
      case measure => omega
      case rel => exact ⟨j + 1, rfl, by omega, by simp, by rw [HT.out]; exact ho7, hb2.trans hb7⟩
    · have d1 : decide ((j : Int) < (l.length : Int)) = false := decide_eq_false (by omega)
      have e1 : l.take j = l := List.take_of_length_le (by omega)
      rw [e1] at ho
      clear e1
      obtain ⟨h1, h2⟩ := ho
      rcases h2 with ⟨rfl, h3⟩ | ⟨g, cap, cur, rfl, hg, hbk, hcap, hmx, hcs, htk⟩
      · have hl : l = [] := by simpa using h3
        have HL := Lib.hid hl
        clear h1 h3 hl
        go_wp2_with fail
        refine (Tryd.strings_Join_none none 0 _ _).mono ?_
        rintro e w3 ⟨rfl, e3⟩
        rw [e3]
        go_wp2
        go_ret
        exact ⟨by rw [HL.out]; rfl, hb⟩
      · have hj2 : joinR (l.map (·.t)) = Lib.join ((l.map txt).map (·.data.toList)) (⟨#[32]⟩ : ByteArray).data.toList := by
          rw [List.map_map, show (⟨#[32]⟩ : ByteArray).data.toList = [32] from rfl, join_eq]
          congr 1
        have hlen : (Lib.join ((l.map txt).map (·.data.toList)) (⟨#[32]⟩ : ByteArray).data.toList).length ≤ 140737488355328 := by
          rw [← hj2]
          have h1 := joinR_len 10000 (l.map (·.t)) (fun t ht => by
            obtain ⟨x, hx, rfl⟩ := List.mem_map.1 ht
            exact HS.out x hx)
          rw [List.length_map] at h1
          omega
        have hcell : ∀ (j : Nat) x, (l.map txt)[j]? = some x → wr.cell? ⟨g, 0 + j, none⟩ = some (.string x) := fun j x hx => by
          have hjl : j < (l.map txt).length := (List.getElem?_eq_some_iff.1 hx).1
          have h4 : (cur.toList.take ((l.map txt).length * 1))[j]? = ((l.map txt).map Value.string)[j]? := congrArg (fun z : List Value => z[j]?) htk
          rw [List.getElem?_take_of_lt (by omega), List.getElem?_map, hx] at h4
          rw [cell_of_row wr g _ cur 9 (0, 0) hbk, Nat.zero_add]
          rw [Array.getElem?_toList] at h4
          exact h4
        have hlt3 : g < wr.heap.size := (Array.getElem?_eq_some_iff.1 hbk).1
        have HJ := Lib.hid hj2
        have HC := Lib.hid hcell
        have HN := Lib.hid hlen
        have HM : Hid ((l.map txt).length ≤ 140737488355328) := by
          show _ ≤ _
          rw [List.length_map]
          omega
        clear hj2 hcell hlen h1 hcs htk hbk
        generalize l.map txt = ts at *
        go_wp2_with fail
        refine (Tryd.strings_Join g 0 cap ts _ _ HC.out hlt3 HM.out hcap HN.out).mono ?_
        rintro e w3 ⟨rfl, q⟩
        go_wp2
        go_ret
        exact ⟨by rw [HJ.out]; rfl, hb.trans (q.mono hb.size)⟩
theorem ljoin_any (A : Option Addr) (c : Nat) (l : List Tok) (w : World) (h : RdT w A c l) (hn : l.length ≤ 200) (hs : ∀ t ∈ l, t.t.length ≤ 200) :
    Calls Tryd.prog 13 #[.slice A l.length c] w fun e w' => e = .returned (.string ⟨(joinR (l.map (·.t))).toArray⟩) ∧ Below w.heap.size w w' :=
  ljoin_big A c l w h (by omega) fun t ht => Nat.le_trans (hs t ht) (by decide)
end Go.Proofs.YtpfhgkielakmoaaDoor

/-
  Rows of tokens that are read; Join.
-/
import Derived.Test.YtjjdpbfbpaobhaaDoorTj
set_option linter.unusedSimpArgs false
set_option linter.unusedVariables false
namespace Go.Proofs.YtjjdpbfbpaobhaaDoor
open Go.RowKit Num

/-- A row of tokens that may be read. -/
structure RdT (w : World) (A : Option Addr) (c : Nat) (l : List Tok) : Prop where
  room : l.length ≤ c
  cap : c ≤ maxLen
  at_ : l ≠ [] → ∃ b o, A = some ⟨b, o, none⟩ ∧ b < w.heap.size ∧ ∀ j (h : j < l.length), w.cell? ⟨b, o + j * 4, none⟩ = some (.int .i64 l[j].k) ∧ w.cell? ⟨b, o + j * 4 + 1, none⟩ = some (.string ⟨l[j].t.toArray⟩) ∧ w.cell? ⟨b, o + j * 4 + 2, none⟩ = some (.int .i64 l[j].v) ∧ w.cell? ⟨b, o + j * 4 + 3, none⟩ = some (.int .i64 l[j].at_)
theorem RdT.below {w w' : World} {A : Option Addr} {c : Nat} {l : List Tok} {B : Nat} (h : RdT w A c l) (hb : Below B w w') (hB : w.heap.size ≤ B) : RdT w' A c l :=
  ⟨h.room, h.cap, fun hn => by
    obtain ⟨b, o, hA, hlt, hc⟩ := h.at_ hn
    have hx : ∀ k, w'.cell? ⟨b, k, none⟩ = w.cell? ⟨b, k, none⟩ := fun k => hb.cell (p := ⟨b, k, none⟩) (show b < B by omega)
    refine ⟨b, o, hA, Nat.lt_of_lt_of_le hlt (hb.size), fun j hj => ?_⟩
    simp only [hx]
    exact hc j hj⟩
theorem RdT.nil {w : World} {A : Option Addr} {c : Nat} (h : c ≤ maxLen) : RdT w A c [] := ⟨Nat.zero_le _, h, fun e => absurd rfl e⟩
theorem tcells_at (l : List Tok) (j : Nat) (h : j < l.length) : (tvals l)[j * 4]? = some (.int .i64 l[j].k) ∧ (tvals l)[j * 4 + 1]? = some (.string ⟨l[j].t.toArray⟩) ∧ (tvals l)[j * 4 + 2]? = some (.int .i64 l[j].v) ∧ (tvals l)[j * 4 + 3]? = some (.int .i64 l[j].at_) := by
  induction l generalizing j with
  | nil => cases h
  | cons t l ih =>
    have e : tvals (t :: l) = tcells t ++ tvals l := rfl
    rw [e]
    cases j with
    | zero => exact ⟨rfl, rfl, rfl, rfl⟩
    | succ j =>
      have h2 := ih j (by simpa using h)
      have e4 : (tcells t).length = 4 := rfl
      have hx : ∀ k, (tcells t ++ tvals l)[(j + 1) * 4 + k]? = (tvals l)[j * 4 + k]? := fun k => by
        rw [List.getElem?_append_right (by rw [e4]; omega), e4]
        congr 1
        omega
      have h0 := hx 0
      rw [Nat.add_zero, Nat.add_zero] at h0
      rw [h0, hx 1, hx 2, hx 3]
      exact h2
theorem OwnT.rd {w : World} {base : Nat} {ty : TypeId} {v : Value} {l : List Tok} (h : OwnT w base ty v l) : ∃ A c, v = .slice A l.length c ∧ RdT w A c l := by
  obtain ⟨_, h2⟩ := h
  rcases h2 with ⟨h2, h3⟩ | ⟨g, cap, cur, hv, hg, hb, hn, hc, hs, ht⟩
  · refine ⟨none, 0, by rw [h2, h3], ?_⟩
    rw [List.length_eq_zero_iff.1 h3]
    exact RdT.nil (Nat.zero_le _)
  · refine ⟨_, _, hv, hn, hc, fun _ => ⟨g, 0, rfl, (Array.getElem?_eq_some_iff.1 hb).1, fun j hj => ?_⟩⟩
    have hx : ∀ k, k < 4 → w.cell? ⟨g, 0 + j * 4 + k, none⟩ = (tvals l)[j * 4 + k]? := fun k hk => by
      rw [cell_of_row w g _ cur ty (0, 0) hb, ← ht, List.getElem?_take_of_lt (by omega)]
      simp
    have h0 := hx 0 (by decide)
    rw [Nat.add_zero, Nat.add_zero] at h0
    obtain ⟨t1, t2, t3, t4⟩ := tcells_at l j hj
    exact ⟨h0.trans t1, (hx 1 (by decide)).trans t2, (hx 2 (by decide)).trans t3, (hx 3 (by decide)).trans t4⟩
theorem joinR_snoc (ts : List (List UInt8)) (t : List UInt8) : joinR (ts ++ [t]) = if ts = [] then t else joinR ts ++ 32 :: t := by
  induction ts with
  | nil => rfl
  | cons a ts ih =>
    rw [if_neg (by simp)]
    cases ts with
    | nil => rfl
    | cons b r =>
      rw [if_neg (by simp)] at ih
      have e1 : joinR (a :: (b :: r) ++ [t]) = a ++ 32 :: joinR (b :: r ++ [t]) := rfl
      have e2 : joinR (a :: b :: r) = a ++ 32 :: joinR (b :: r) := rfl
      rw [e1, e2, ih]
      simp
set_option maxRecDepth 100000 in
set_option maxHeartbeats 4000000 in
theorem rjoin_any (A : Option Addr) (c : Nat) (l : List Tok) (w : World) (h : RdT w A c l) (hn : l.length ≤ 200) (hs : ∀ t ∈ l, t.t.length ≤ 200) :
    Calls Tryd.prog 14 #[.slice A l.length c] w fun e w' => e = .returned (.string ⟨(joinR (l.map (·.t))).toArray⟩) ∧ Below w.heap.size w w' := by
  have HS := Lib.hid hs
  clear hs
  go_enter Tryd.func14, Tryd.ntmps14
  go_wp2_with fail
  go_loopg [3, 4] l.length (fun k v a wr => ∃ j u, k = l.length - j ∧ j ≤ l.length ∧ a = .int .i64 (j : Nat) ∧ v = .string u ∧ Hid (u.data.toList = joinR ((l.take j).map (·.t))) ∧ u.size ≤ 201 * j ∧ Read w wr)
  case atStart => exact ⟨0, ⟨#[]⟩, rfl, Nat.zero_le _, rfl, rfl, rfl, by decide, (by first | exact Read.refl _ | exact ⟨_, rfl⟩ | exact Read.drewN ⟨_, rfl⟩ _ | exact Read.drewN (Read.drewN ⟨_, rfl⟩ _) _ | exact Read.drewN (Read.refl _) _)⟩
  case round =>
    obtain ⟨j, u, hk, hj, rfl, rfl, hu, hus, hq⟩ := hrel
    by_cases hlt : j < l.length
    · have d1 : decide ((j : Int) < (l.length : Int)) = true := decide_eq_true (by omega)
      have hw := h.below (hq.below w.heap.size) (Nat.le_refl _)
      obtain ⟨b, o, hA, hb, hc⟩ := hw.at_ (by intro e; rw [e] at hlt; cases hlt)
      obtain ⟨c1, c2, c3, c4⟩ := hc j hlt
      clear hw hc c1 c3 c4
      subst hA
      have hsz : (⟨l[j].t.toArray⟩ : ByteArray).size ≤ 200 := HS.out _ (List.getElem_mem hlt)
      generalize ht : (⟨l[j].t.toArray⟩ : ByteArray) = t at *
      have hj0 := joinR_snoc ((l.take j).map (·.t)) l[j].t
      have htk : (l.take (j + 1)).map (·.t) = (l.take j).map (·.t) ++ [l[j].t] := by rw [List.take_succ_eq_append_getElem hlt, List.map_append]; rfl
      rw [← htk] at hj0
      have HJ := Lib.hid hj0
      have HT := Lib.hid ht
      clear hj0 htk ht
      by_cases h0 : 0 < j
      · go_wp2_with fail
        go_roundg (l.length - (j + 1))
        case measure => omega
        case rel =>
          refine ⟨j + 1, _, rfl, by omega, by simp, rfl, ?_, ?_, hq.trans (by first | exact Read.refl _ | exact ⟨_, rfl⟩ | exact Read.drewN ⟨_, rfl⟩ _ | exact Read.drewN (Read.drewN ⟨_, rfl⟩ _) _ | exact Read.drewN (Read.refl _) _)⟩
          · show _ = _
            rw [HJ.out, if_neg (by intro e; rw [List.map_eq_nil_iff, List.take_eq_nil_iff] at e; rcases e with e | e; omega; rw [e] at hlt; simp at hlt)]
            have e1 : (u ++ (⟨#[32]⟩ : ByteArray) ++ t).data.toList = u.data.toList ++ [32] ++ t.data.toList := by simp [ByteArray.data_append]
            rw [e1, hu.out, ← HT.out]
            simp
          · have e1 : (u ++ (⟨#[32]⟩ : ByteArray) ++ t).size = u.size + 1 + t.size := by rw [ByteArray.size_append, ByteArray.size_append]; rfl
            rw [e1]
            omega
      · go_wp2_with fail
        go_roundg (l.length - (j + 1))
        case measure => omega
        case rel =>
          refine ⟨j + 1, _, rfl, by omega, by simp, rfl, ?_, ?_, hq.trans (by first | exact Read.refl _ | exact ⟨_, rfl⟩ | exact Read.drewN ⟨_, rfl⟩ _ | exact Read.drewN (Read.drewN ⟨_, rfl⟩ _) _ | exact Read.drewN (Read.refl _) _)⟩
          · show _ = _
            obtain rfl : j = 0 := by omega
            have hu0 := hu.out
            rw [HJ.out, if_pos (by simp)]
            have e1 : (u ++ t).data.toList = u.data.toList ++ t.data.toList := by simp [ByteArray.data_append]
            rw [e1, hu0, ← HT.out]
            simp [joinR]
          · rw [ByteArray.size_append]
            omega
    · have d1 : decide ((j : Int) < (l.length : Int)) = false := decide_eq_false (by omega)
      have e1 : u = ⟨(joinR (l.map (·.t))).toArray⟩ := by
        have h1 := hu.out
        rw [List.take_of_length_le (by omega)] at h1
        rw [ext_eta u, h1]
      have E1 := Lib.hid e1
      clear e1 hu
      go_wp2
      rw [← E1.out]
      go_ret
      exact ⟨rfl, hq.below _⟩
end Go.Proofs.YtjjdpbfbpaobhaaDoor

/-
  Contract of nat.Parse.
-/
import Derived.Test.YtmhjjjffgpdolaaNatP
import Derived.Test.YtmhjjjffgpdolaaParP
import Derived.Lib.RabinKarpLaws
import Derived.Lib.Strings
namespace Go.Proofs.Ytmhjjjffgpdolaa
open Go.RowKit Num

def parseR (l : List UInt8) : List Nat × Int := if formB l then (if l.length ≤ 2000 then fitR (numOf l) else ([], 3)) else ([], 5)
theorem parseR_form {l : List UInt8} (h : formB l = false) : parseR l = ([], 5) := by unfold parseR; rw [h]; rfl
theorem formB_empty : formB [] = false := by simp [formB]
theorem formB_zero {l : List UInt8} (h1 : 1 < l.length) (h2 : l.head? = some 48) : formB l = false := decide_eq_false (fun h => h.2.1 ⟨h1, h2⟩)
theorem formB_bad {l : List UInt8} {k : Nat} {c : UInt8} (h1 : l[k]? = some c) (h2 : ¬ (48 ≤ c.toNat ∧ c.toNat ≤ 57)) : formB l = false :=
  decide_eq_false (fun h => h2 (isD_iff (h.2.2 c (List.mem_of_getElem? h1))))
theorem formB_good {l : List UInt8} (h1 : l ≠ []) (h2 : ¬ (1 < l.length ∧ l.head? = some 48)) (h3 : ∀ c ∈ l, isD c = true) : formB l = true := decide_eq_true ⟨h1, h2, h3⟩
theorem parseR_long {l : List UInt8} (h : formB l = true) (h2 : ¬ l.length ≤ 2000) : parseR l = ([], 3) := by unfold parseR; rw [if_pos h, if_neg h2]
theorem parseR_ok {l : List UInt8} (h : formB l = true) (h2 : l.length ≤ 2000) : parseR l = fitR (numOf l) := by unfold parseR; rw [if_pos h, if_pos h2]
theorem numOf_take {l : List UInt8} {k : Nat} {c : UInt8} (h : l[k]? = some c) : numOf (l.take (k + 1)) = 10 * numOf (l.take k) + (c.toNat - 48) := by
  have hk : k < l.length := (List.getElem?_eq_some_iff.1 h).1
  rw [List.take_succ_eq_append_getElem hk, numOf_snoc]
  have := (List.getElem?_eq_some_iff.1 h).2
  rw [this]
theorem digits_take {l : List UInt8} {k : Nat} {c : UInt8} (h : l[k]? = some c) (hc : 48 ≤ c.toNat ∧ c.toNat ≤ 57) (hd : ∀ x ∈ l.take k, isD x = true) : ∀ x ∈ l.take (k + 1), isD x = true := by
  have hk : k < l.length := (List.getElem?_eq_some_iff.1 h).1
  rw [List.take_succ_eq_append_getElem hk]
  intro x hx
  rcases List.mem_append.1 hx with hx | hx
  · exact hd x hx
  · have := (List.getElem?_eq_some_iff.1 h).2
    rw [this] at hx
    have hx' : x = c := by simpa using hx
    subst hx'
    exact decide_eq_true hc

theorem Own.form {w : World} {base : Nat} {v : Value} {xs : List Nat} (h : Own w base v xs) : (v = .slice none 0 0 ∧ xs = []) ∨ ∃ g cap, v = .slice (some ⟨g, 0, none⟩) xs.length cap ∧ base ≤ g := by
  rcases h.2 with ⟨hv, h0⟩ | ⟨g, cap, cur, hv, hg, _⟩
  · exact .inl ⟨hv, List.eq_nil_of_length_eq_zero h0⟩
  · exact .inr ⟨g, cap, hv, hg⟩
theorem Own.set {w : World} {base g cap n : Nat} {xs : List Nat} (h : Own w base (.slice (some ⟨g, 0, none⟩) n cap) xs) (hn : xs.length = n) (j d : Nat) {D : Int} (hD : D = (d : Int)) :
    Own (w.setCell ⟨g, j, none⟩ (.int .u32 D)) base (.slice (some ⟨g, 0, none⟩) n cap) (xs.set j d) := by
  subst hn hD
  have := World.ownsRow.stored h j (dv d)
  unfold Own
  rw [List.length_set, List.map_set]
  exact this.1
theorem Own.cell {w : World} {base g cap n : Nat} {xs : List Nat} (h : Own w base (.slice (some ⟨g, 0, none⟩) n cap) xs) (hn : xs.length = n) {j : Nat} (hj : j < xs.length) :
    w.cell? ⟨g, j, none⟩ = some (.int .u32 xs[j]) ∧ w.frozen? ⟨g, j, none⟩ = false := by
  subst hn
  refine ⟨?_, World.ownsRow.frozenAt h j⟩
  rw [World.ownsRow.cellAt h j (by omega)]
  simp [hj, dv]

theorem nat_pos_or (n : Nat) : n = 0 ∨ 0 < n := Nat.eq_zero_or_pos n



set_option maxRecDepth 100000 in
set_option maxHeartbeats 1000000 in
theorem parse_any (s : ByteArray) (w : World) (hs : s.size ≤ 1000000) : Calls Try.prog 67 #[.string s] w fun e w' => RetSE w w' e (parseR s.data.toList) := by
  by_cases h0 : s.toList = []
  · have HE : Hid (parseR s.data.toList = ([], 5)) := by
      unfold Hid
      rw [← Lib.toList_data, h0]
      exact parseR_form formB_empty
    go_enter Try.func67, Try.ntmps67
    go_wp2
    go_ret2
    rw [HE.out]
    exact ⟨⟨none, 0, rfl, Rd.nil⟩, Below.refl _ _⟩
  · have h0' : s.toList.isEmpty = false := by
      cases h : s.toList with
      | nil => exact absurd h h0
      | cons a l => rfl
    have hne : s.data.toList ≠ [] := by rw [← Lib.toList_data]; exact h0
    by_cases h1 : 1 < s.size
    · have hb0 := byte_at s 0 (by omega)
      have hhd : s.data.toList.head? = some s[0] := by rw [← hb0, List.head?_eq_getElem?]
      by_cases hz : s[0] = 48
      · have hz' : ((s[0].toNat : Int) == 48) = true := by rw [hz]; rfl
        have HE := Lib.hid (parseR_form (formB_zero (by rw [← Lib.size_eq]; exact h1) (by rw [hhd, hz])))
        clear hb0 hhd hz
        go_enter Try.func67, Try.ntmps67
        go_wp2
        go_ret2
        rw [HE.out]
        exact ⟨⟨none, 0, rfl, Rd.nil⟩, Below.refl _ _⟩
      · have hz' : ((s[0].toNat : Int) == 48) = false := by
          apply beq_eq_false_iff_ne.2
          intro e
          apply hz
          apply UInt8.toNat_inj.1
          show s[0].toNat = 48
          omega
        have hzero : ¬ (1 < s.data.toList.length ∧ s.data.toList.head? = some 48) := fun h => hz (by rw [hhd] at h; exact Option.some.inj h.2)
        clear hb0 hhd hz
        go_enter Try.func67, Try.ntmps67
        go_wp2
        go_loop [24] (fun iv => ∃ k : Nat, k ≤ s.size ∧ iv = .int .i64 k ∧ Hid (∀ c ∈ s.data.toList.take k, isD c = true)) (fun iv => s.size - (intOf iv).toNat)
        case atStart => exact ⟨0, by omega, rfl, fun c hc => by simp at hc⟩
        case round =>
          obtain ⟨k, hk, rfl, hdig⟩ := hrel
          by_cases hlt : k < s.size
          · have hb := Lib.hid (byte_at s k hlt)
            by_cases hlo : s[k].toNat < 48
            · have HE := Lib.hid (parseR_form (formB_bad hb.out (by omega)))
              go_wp2
              go_ret2
              rw [HE.out]
              exact ⟨⟨none, 0, rfl, Rd.nil⟩, Below.refl _ _⟩
            · by_cases hhi : 57 < s[k].toNat
              · have HE := Lib.hid (parseR_form (formB_bad hb.out (by omega)))
                go_wp2
                go_ret2
                rw [HE.out]
                exact ⟨⟨none, 0, rfl, Rd.nil⟩, Below.refl _ _⟩
              · have HN := Lib.hid (digits_take hb.out (by omega) hdig.out)
                go_wp2
                go_round
                case rel => exact ⟨k + 1, by omega, by go_num, HN⟩
                case measure => simp [intOf]; omega
          · have hall : ∀ c ∈ s.data.toList, isD c = true := by
              have := hdig.out
              rwa [List.take_of_length_le (by rw [← Lib.size_eq]; omega)] at this
            have hF := formB_good hne hzero hall
            clear hdig
            by_cases hlong : s.size ≤ 2000
            · have HE := Lib.hid (parseR_ok hF (by rw [← Lib.size_eq]; exact hlong))
              have HA := Lib.hid hall
              have hks : k = s.size := by omega
              subst hks
              clear hF hall hlt hk
              go_wp2
              go_loopw [5, 43] (fun v iv wr => ∃ (i : Nat) (xs : List Nat), i ≤ s.size ∧ iv = .int .i64 i ∧ Own wr w.heap.size v xs ∧ Ok xs ∧ Hid (val xs = numOf (s.data.toList.take i)) ∧ Hid (xs.length ≤ i) ∧ Below w.heap.size w wr) (fun _ iv _ => s.size - (intOf iv).toNat)
              case atStart => exact ⟨0, [], by omega, rfl, Own.nil _ _, Ok.nil, rfl, Nat.le_refl 0, Below.refl _ _⟩
              case round =>
                obtain ⟨i, xs, hi, rfl, hown, hok, hval, hxl, hbel⟩ := hrel
                have hxl2 : xs.length ≤ 2000 := Nat.le_trans hxl.out (by omega)
                by_cases hli : i < s.size
                · have hb := byte_at s i hli
                  have hdd := isD_iff (HA.out s[i] (List.mem_of_getElem? hb))
                  have hnum := Lib.hid (numOf_take hb)
                  clear hb
                  obtain ⟨d, hd⟩ : ∃ d : Nat, d = s[i].toNat - 48 := ⟨_, rfl⟩
                  have hdi : ((s[i].toNat : Int) - 48) = (d : Int) := by omega
                  have hd10 : d ≤ 10 := by omega
                  rw [← hd] at hnum
                  have HD := Lib.hid hd
                  clear hd
                  have hstep : Hid (∀ os : List Nat, val os = 10 * val xs + d → val os = numOf (s.data.toList.take (i + 1))) := by
                    intro os h
                    rw [h, hnum.out, hval.out]
                  rcases hown.form with ⟨rfl, hx0⟩ | ⟨g, cap, rfl, hgb⟩
                  · subst hx0
                    go_wp2
                    refine wp_loop_rounds 1 ?_
                    rw [rounds_succ]
                    rcases nat_pos_or d with hd0 | hd0
                    · subst hd0
                      go_wp2
                      go_roundw
                      case rel => exact ⟨i + 1, [], by omega, by go_num, hown, Ok.nil, hstep.out [] rfl, Nat.zero_le _, hbel⟩
                      case measure => simp [intOf]; omega
                    · go_wp2_with (at_builtin; refine wp_app1 _ _ _ w.heap.size _ [] d (by omega) hown hbel.size (by simp) rfl rfl rfl rfl ?_; intro v' w' hown' _ hbel')
                      go_roundw
                      case rel => exact ⟨i + 1, [] ++ [d], by omega, by go_num, hown', Ok.cons (by omega) Ok.nil, hstep.out _ (by simp [val]), by unfold Hid; simp, hbel.trans hbel'⟩
                      case measure => simp [intOf]; omega
                  · go_wp2
                    go_loopw [7, 53] (fun cv jv wq => ∃ (j : Nat) (os : List Nat) (cr : Nat), j ≤ xs.length ∧ jv = .int .i64 j ∧ cv = .int .u64 cr ∧ TenTo xs d j os cr ∧ Own wq w.heap.size (.slice (some ⟨g, 0, none⟩) xs.length cap) os ∧ Below w.heap.size w wq) (fun _ jv _ => xs.length - (intOf jv).toNat)
                    case atStart => exact ⟨0, xs, d, by omega, rfl, rfl, TenTo.zero hok d hd10, hown, hbel⟩
                    case round =>
                      obtain ⟨j, os, cr, hj, rfl, rfl, hten, hown2, hbel2⟩ := hrel
                      clear hown hbel hdi
                      have hol := hten.2.1
                      have hoo := hten.1
                      have hcr := hten.2.2.1
                      have HT := Lib.hid hten
                      have HL := Lib.hid hol
                      by_cases hlj : j < xs.length
                      · have hjo : j < os.length := by omega
                        obtain ⟨g1, g2⟩ := hown2.cell hol hjo
                        have hdo := hoo.get hjo
                        have HS : Hid (∀ s' q, s' < 4294967296 → q ≤ 10 → s' + 4294967296 * q = cr + 10 * os[j] → TenTo xs d (j + 1) (os.set j s') q) := fun s' q h1 h2 h3 => HT.out.step hjo h1 h2 h3
                        generalize os[j] = oj at *
                        clear hten hol
                        go_wp2
                        go_roundw
                        case rel => exact ⟨j + 1, os.set j ((cr + 10 * oj) % 4294967296), (cr + 10 * oj) / 4294967296, by omega, by go_num, by go_num, HS.out _ _ (by omega) (by omega) (by omega), hown2.set HL.out j _ (by omega), hbel2.setCell (by exact hgb) _⟩
                        case measure => simp [intOf]; omega
                      · have hjl : j = xs.length := by omega
                        subst hjl
                        clear hten
                        rcases nat_pos_or cr with hc0 | hc0
                        · subst hc0
                          have hv := HT.out.done0
                          have HV := Lib.hid (hstep.out _ hv)
                          clear hv hol
                          go_wp2
                          go_roundw
                          case rel => exact ⟨i + 1, os, by omega, by go_num, hown2, hoo, HV, by unfold Hid; have := HL.out; have := hxl.out; omega, hbel2⟩
                          case measure => simp [intOf]; omega
                        · have hv := HT.out.done
                          have HV := Lib.hid (hstep.out _ hv)
                          clear hv hol
                          go_wp2_with (at_builtin; refine wp_app1 _ _ _ w.heap.size _ os cr (by omega) hown2 hbel2.size (by have := HL.out; omega) rfl rfl rfl rfl ?_; intro v' w' hown' _ hbel')
                          go_roundw
                          case rel => exact ⟨i + 1, os ++ [cr], by omega, by go_num, hown', hoo.append (Ok.cons (by omega) Ok.nil), HV, by unfold Hid; have := HL.out; have := hxl.out; simp; omega, hbel2.trans hbel'⟩
                          case measure => simp [intOf]; omega
                · have his : i = s.size := by omega
                  subst his
                  have hv : val xs = numOf s.data.toList := by
                    have := hval.out
                    rwa [List.take_of_length_le (by rw [← Lib.size_eq]; exact Nat.le_refl _)] at this
                  have HV := Lib.hid hv
                  clear hv hli hi
                  obtain ⟨A', c', rfl, hr⟩ := hown.rd hok
                  go_wp2_with (go_at_call 74; refine (fit_any A' c' xs _ hr (by omega)).mono ?_; rintro e w2 ⟨⟨A2, c2, rfl, hr2⟩, hb2⟩)
                  go_ret2
                  rw [HV.out] at hr2 ⊢
                  rw [HE.out]
                  exact ⟨⟨A2, c2, rfl, hr2⟩, hbel.trans (hb2.mono hbel.size)⟩
            · have HE := Lib.hid (parseR_long hF (by rw [← Lib.size_eq]; exact hlong))
              clear hF hall
              first
                | (exfalso; omega)
                | (go_wp2
                   go_ret2
                   rw [HE.out]
                   exact ⟨⟨none, 0, rfl, Rd.nil⟩, Below.refl _ _⟩)
    · have hzero : ¬ (1 < s.data.toList.length ∧ s.data.toList.head? = some 48) := fun h => h1 (by rw [Lib.size_eq]; exact h.1)
      go_enter Try.func67, Try.ntmps67
      go_wp2
      go_loop [24] (fun iv => ∃ k : Nat, k ≤ s.size ∧ iv = .int .i64 k ∧ Hid (∀ c ∈ s.data.toList.take k, isD c = true)) (fun iv => s.size - (intOf iv).toNat)
      case atStart => exact ⟨0, by omega, rfl, fun c hc => by simp at hc⟩
      case round =>
        obtain ⟨k, hk, rfl, hdig⟩ := hrel
        by_cases hlt : k < s.size
        · have hb := Lib.hid (byte_at s k hlt)
          by_cases hlo : s[k].toNat < 48
          · have HE := Lib.hid (parseR_form (formB_bad hb.out (by omega)))
            go_wp2
            go_ret2
            rw [HE.out]
            exact ⟨⟨none, 0, rfl, Rd.nil⟩, Below.refl _ _⟩
          · by_cases hhi : 57 < s[k].toNat
            · have HE := Lib.hid (parseR_form (formB_bad hb.out (by omega)))
              go_wp2
              go_ret2
              rw [HE.out]
              exact ⟨⟨none, 0, rfl, Rd.nil⟩, Below.refl _ _⟩
            · have HN := Lib.hid (digits_take hb.out (by omega) hdig.out)
              go_wp2
              go_round
              case rel => exact ⟨k + 1, by omega, by go_num, HN⟩
              case measure => simp [intOf]; omega
        · have hall : ∀ c ∈ s.data.toList, isD c = true := by
            have := hdig.out
            rwa [List.take_of_length_le (by rw [← Lib.size_eq]; omega)] at this
          have hF := formB_good hne hzero hall
          clear hdig
          by_cases hlong : s.size ≤ 2000
          · have HE := Lib.hid (parseR_ok hF (by rw [← Lib.size_eq]; exact hlong))
            have HA := Lib.hid hall
            have hks : k = s.size := by omega
            subst hks
            clear hF hall hlt hk
            go_wp2
            go_loopw [5, 43] (fun v iv wr => ∃ (i : Nat) (xs : List Nat), i ≤ s.size ∧ iv = .int .i64 i ∧ Own wr w.heap.size v xs ∧ Ok xs ∧ Hid (val xs = numOf (s.data.toList.take i)) ∧ Hid (xs.length ≤ i) ∧ Below w.heap.size w wr) (fun _ iv _ => s.size - (intOf iv).toNat)
            case atStart => exact ⟨0, [], by omega, rfl, Own.nil _ _, Ok.nil, rfl, Nat.le_refl 0, Below.refl _ _⟩
            case round =>
              obtain ⟨i, xs, hi, rfl, hown, hok, hval, hxl, hbel⟩ := hrel
              have hxl2 : xs.length ≤ 2000 := Nat.le_trans hxl.out (by omega)
              by_cases hli : i < s.size
              · have hb := byte_at s i hli
                have hdd := isD_iff (HA.out s[i] (List.mem_of_getElem? hb))
                have hnum := Lib.hid (numOf_take hb)
                clear hb
                obtain ⟨d, hd⟩ : ∃ d : Nat, d = s[i].toNat - 48 := ⟨_, rfl⟩
                have hdi : ((s[i].toNat : Int) - 48) = (d : Int) := by omega
                have hd10 : d ≤ 10 := by omega
                rw [← hd] at hnum
                have HD := Lib.hid hd
                clear hd
                have hstep : Hid (∀ os : List Nat, val os = 10 * val xs + d → val os = numOf (s.data.toList.take (i + 1))) := by
                  intro os h
                  rw [h, hnum.out, hval.out]
                rcases hown.form with ⟨rfl, hx0⟩ | ⟨g, cap, rfl, hgb⟩
                · subst hx0
                  go_wp2
                  refine wp_loop_rounds 1 ?_
                  rw [rounds_succ]
                  rcases nat_pos_or d with hd0 | hd0
                  · subst hd0
                    go_wp2
                    go_roundw
                    case rel => exact ⟨i + 1, [], by omega, by go_num, hown, Ok.nil, hstep.out [] rfl, Nat.zero_le _, hbel⟩
                    case measure => simp [intOf]; omega
                  · go_wp2_with (at_builtin; refine wp_app1 _ _ _ w.heap.size _ [] d (by omega) hown hbel.size (by simp) rfl rfl rfl rfl ?_; intro v' w' hown' _ hbel')
                    go_roundw
                    case rel => exact ⟨i + 1, [] ++ [d], by omega, by go_num, hown', Ok.cons (by omega) Ok.nil, hstep.out _ (by simp [val]), by unfold Hid; simp, hbel.trans hbel'⟩
                    case measure => simp [intOf]; omega
                · go_wp2
                  go_loopw [7, 53] (fun cv jv wq => ∃ (j : Nat) (os : List Nat) (cr : Nat), j ≤ xs.length ∧ jv = .int .i64 j ∧ cv = .int .u64 cr ∧ TenTo xs d j os cr ∧ Own wq w.heap.size (.slice (some ⟨g, 0, none⟩) xs.length cap) os ∧ Below w.heap.size w wq) (fun _ jv _ => xs.length - (intOf jv).toNat)
                  case atStart => exact ⟨0, xs, d, by omega, rfl, rfl, TenTo.zero hok d hd10, hown, hbel⟩
                  case round =>
                    obtain ⟨j, os, cr, hj, rfl, rfl, hten, hown2, hbel2⟩ := hrel
                    clear hown hbel hdi
                    have hol := hten.2.1
                    have hoo := hten.1
                    have hcr := hten.2.2.1
                    have HT := Lib.hid hten
                    have HL := Lib.hid hol
                    by_cases hlj : j < xs.length
                    · have hjo : j < os.length := by omega
                      obtain ⟨g1, g2⟩ := hown2.cell hol hjo
                      have hdo := hoo.get hjo
                      have HS : Hid (∀ s' q, s' < 4294967296 → q ≤ 10 → s' + 4294967296 * q = cr + 10 * os[j] → TenTo xs d (j + 1) (os.set j s') q) := fun s' q h1 h2 h3 => HT.out.step hjo h1 h2 h3
                      generalize os[j] = oj at *
                      clear hten hol
                      go_wp2
                      go_roundw
                      case rel => exact ⟨j + 1, os.set j ((cr + 10 * oj) % 4294967296), (cr + 10 * oj) / 4294967296, by omega, by go_num, by go_num, HS.out _ _ (by omega) (by omega) (by omega), hown2.set HL.out j _ (by omega), hbel2.setCell (by exact hgb) _⟩
                      case measure => simp [intOf]; omega
                    · have hjl : j = xs.length := by omega
                      subst hjl
                      clear hten
                      rcases nat_pos_or cr with hc0 | hc0
                      · subst hc0
                        have hv := HT.out.done0
                        have HV := Lib.hid (hstep.out _ hv)
                        clear hv hol
                        go_wp2
                        go_roundw
                        case rel => exact ⟨i + 1, os, by omega, by go_num, hown2, hoo, HV, by unfold Hid; have := HL.out; have := hxl.out; omega, hbel2⟩
                        case measure => simp [intOf]; omega
                      · have hv := HT.out.done
                        have HV := Lib.hid (hstep.out _ hv)
                        clear hv hol
                        go_wp2_with (at_builtin; refine wp_app1 _ _ _ w.heap.size _ os cr (by omega) hown2 hbel2.size (by have := HL.out; omega) rfl rfl rfl rfl ?_; intro v' w' hown' _ hbel')
                        go_roundw
                        case rel => exact ⟨i + 1, os ++ [cr], by omega, by go_num, hown', hoo.append (Ok.cons (by omega) Ok.nil), HV, by unfold Hid; have := HL.out; have := hxl.out; simp; omega, hbel2.trans hbel'⟩
                        case measure => simp [intOf]; omega
              · have his : i = s.size := by omega
                subst his
                have hv : val xs = numOf s.data.toList := by
                  have := hval.out
                  rwa [List.take_of_length_le (by rw [← Lib.size_eq]; exact Nat.le_refl _)] at this
                have HV := Lib.hid hv
                clear hv hli hi
                obtain ⟨A', c', rfl, hr⟩ := hown.rd hok
                go_wp2_with (go_at_call 74; refine (fit_any A' c' xs _ hr (by omega)).mono ?_; rintro e w2 ⟨⟨A2, c2, rfl, hr2⟩, hb2⟩)
                go_ret2
                rw [HV.out] at hr2 ⊢
                rw [HE.out]
                exact ⟨⟨A2, c2, rfl, hr2⟩, hbel.trans (hb2.mono hbel.size)⟩
          · have HE := Lib.hid (parseR_long hF (by rw [← Lib.size_eq]; exact hlong))
            clear hF hall
            first
              | (exfalso; omega)
              | (go_wp2
                 go_ret2
                 rw [HE.out]
                 exact ⟨⟨none, 0, rfl, Rd.nil⟩, Below.refl _ _⟩)

end Go.Proofs.Ytmhjjjffgpdolaa

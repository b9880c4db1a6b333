/-
  Contracts of less, again.
-/
import Derived.Test.YtlmgdhdakeekkaaNatJ
namespace Go.Proofs.Ytlmgdhdakeekkaa
open Go.RowKit Num

theorem gb_refl (w : World) (row : Option Nat) : w.grownBy w row := ⟨rfl, rfl, rfl, Nat.le_refl _, fun _ _ _ => rfl⟩
theorem gb_trans {w w' w'' : World} {row : Option Nat} (h : w.grownBy w' row) (h' : w'.grownBy w'' row) : w.grownBy w'' row :=
  ⟨h'.os.trans h.os, h'.tape.trans h.tape, h'.output.trans h.output, Nat.le_trans h.size h'.size, fun k hk hne => (h'.block k (Nat.lt_of_lt_of_le hk h.size) hne).trans (h.block k hk hne)⟩
theorem gb_set {w w' : World} {g : Nat} (h : w.grownBy w' (some g)) (i : Nat) (u : Value) : w.grownBy (w'.setCell ⟨g, i, none⟩ u) (some g) :=
  gb_trans h ⟨rfl, rfl, rfl, by simp [World.setCell], fun k _ hne => Below.heap_setCell _ _ _ _ (fun e => hne (by rw [e]))⟩
theorem gb_drewN {w w' : World} {row : Option Nat} (h : w.grownBy w' row) (n : Nat) : w.grownBy (w'.drewN n) row := gb_trans h ⟨rfl, rfl, rfl, Nat.le_refl _, fun _ _ _ => rfl⟩
theorem Row.grown {w w' : World} {g h : Nat} {xs : List Nat} (hr : Row w h xs) (hg : w.grownBy w' (some g)) (hne : h ≠ g) : Row w' h xs := (hg.block h hr.lt (fun e => hne (by injection e))).trans hr
/-- A slice outside a block. -/
def Off (A : Option Addr) (g : Nat) : Prop := ∀ a, A = some a → a.block ≠ g
theorem Rd.grown {w w' : World} {A : Option Addr} {c g : Nat} {xs : List Nat} (h : Rd w A c xs) (hg : w.grownBy w' (some g)) (hne : Off A g) : Rd w' A c xs :=
  ⟨h.room, h.cap, h.ok, fun hn => by
    obtain ⟨b, o, hA, hlt, hc⟩ := h.at_ hn
    exact ⟨b, o, hA, Nat.lt_of_lt_of_le hlt hg.size, fun j hj => hg.cell (hc j hj) (fun e => hne _ hA (by simpa using e))⟩⟩
theorem below_grown {w0 w w' : World} {B g : Nat} (h : Below B w0 w) (hg : w.grownBy w' (some g)) (hB : B ≤ w.heap.size) (hgB : B ≤ g) : Below B w0 w' := h.grown hg hB (by intro k hk; injection hk with hk; omega)

set_option maxRecDepth 100000 in
set_option maxHeartbeats 1000000 in
theorem less2_any (B : Option Addr) (d g j n cap : Nat) (us vs : List Nat) (q : Nat) (w : World) (hr : Row w g us) (ho : Ok us) (hb : Rd w B d vs) (hne : Off B g) (hn : us.length = j + n) (hm : vs.length < n)
    (hv : 0 < vs.length) (hq : q < 4294967296) (hs : us.length ≤ 100000) :
   Calls Try.prog 75 #[.slice (some ⟨g, j, none⟩) n cap, .slice B vs.length d, .int .u64 q] w fun e w' =>
     (∃ (us' : List Nat) (bo : Nat), e = .returned (.bool ((bo : Int) != 0)) ∧ LessEnd us (val vs) j vs.length q us' bo ∧ Row w' g us') ∧ w.grownBy w' (some g) := by
  obtain ⟨b2, o2, rfl, hb2, hc2⟩ := hb.at_ (by rintro rfl; simp at hv)
  have hne' : b2 ≠ g := hne _ rfl
  have hvl : vs.length ≤ 100000 := by omega
  have hHN := Lib.hid hn
  go_enter Try.func75, Try.ntmps75
  clear hn
  go_wp2
  go_loopw [7, 8, 13] (fun cv bv i wr => ∃ (k : Nat) (ws : List Nat) (cr bo : Nat), k ≤ vs.length ∧ i = .int .i64 k ∧ cv = .int .u64 cr ∧ bv = .int .u32 bo ∧ LessTo us vs j q k ws cr bo ∧ Row wr g ws ∧ w.grownBy wr (some g)) (fun _ _ i _ => vs.length - (intOf i).toNat)
  case atStart => exact ⟨0, us, 0, 0, by omega, rfl, rfl, rfl, LessTo.zero ho j q, hr, gb_refl _ _⟩
  case round =>
    obtain ⟨k, ws, cr, bo, hk, rfl, rfl, rfl, hlt0, hrow, hg⟩ := hrel
    clear hr
    have hcr := hlt0.2.2.1
    have hbo := hlt0.2.2.2.1
    have hok := hlt0.1
    have hwl : ws.length = j + n := hlt0.2.1.trans hHN.out
    have HL := Lib.hid hlt0
    have hjk : j + k < ws.length := by omega
    have HW := Lib.hid hwl
    clear hlt0 hwl
    have g3 := hrow.cell hjk
    have g4 := hrow.frozen (j + k)
    have hd3 := hok.get hjk
    generalize hoi : ws[j + k] = ui at *
    have HO := Lib.hid hoi
    clear hoi
    by_cases hlt : k < vs.length
    · have g1 : wr.cell? ⟨b2, o2 + k, none⟩ = some (.int .u32 (vs[k]'hlt)) := hg.cell (hc2 k hlt) (by simpa using hne')
      have hd1 := hb.ok.get hlt
      have HD1 := Lib.hid (at0_in hlt)
      generalize hxi : vs[k] = di at *
      clear hxi
      obtain ⟨M, hM, hMn, hMb⟩ := digits_mul hq hd1
      have HMn := Lib.hid hMn
      have hc1 := Lib.hid hc2
      clear hMn hc2
      go_wp2_with (go_at_call 65; refine (sub32_any _ _ _ _ (by omega) (by omega) (by omega) (by omega) (by omega) (by omega)).mono ?_; rintro e w' ⟨⟨s, qq, rfl, hs', hqq, hsum⟩, rfl⟩; have HS := Lib.hid hsum; clear hsum)
      go_roundw
      case rel => exact ⟨k + 1, ws.set (j + k) s, (cr + M) / 4294967296, qq, by omega, by go_num, by go_num, rfl, HL.out.step (lo := (cr + M) % 4294967296) hjk hs' (by omega) hqq (by rw [HD1.out, ← HMn.out]; omega) (by rw [HO.out]; have := HS.out; omega), hrow.set _ _ rfl, gb_set hg _ _⟩
      case measure => simp [intOf]; omega
    · have hkl : k = vs.length := by omega
      subst hkl
      clear hc2 hk hlt
      go_wp2_with (go_at_call 65; refine (sub32_any _ _ _ _ (by omega) (by omega) (by omega) (by omega) (by omega) (by omega)).mono ?_; rintro e w' ⟨⟨s, qq, rfl, hs', hqq, hsum⟩, rfl⟩; have HS := Lib.hid hsum; clear hsum)
      go_ret
      refine ⟨⟨ws.set (j + vs.length) s, qq, rfl, HL.out.last rfl hjk hs' hqq (by rw [HO.out]; have := HS.out; omega), hrow.set _ _ rfl⟩, gb_set hg _ _⟩

set_option maxRecDepth 100000 in
set_option maxHeartbeats 1000000 in
theorem again_any (B : Option Addr) (d g j n cap : Nat) (us vs : List Nat) (w : World) (hr : Row w g us) (ho : Ok us) (hb : Rd w B d vs) (hne : Off B g) (hn : us.length = j + n) (hm : vs.length < n)
    (hv : 0 < vs.length) (hs : us.length ≤ 100000) :
   Calls Try.prog 76 #[.slice (some ⟨g, j, none⟩) n cap, .slice B vs.length d] w fun e w' =>
     (e = .returned (.tuple #[]) ∧ ∃ us', AgainEnd us (val vs) j vs.length us' ∧ Row w' g us') ∧ w.grownBy w' (some g) := by
  obtain ⟨b2, o2, rfl, hb2, hc2⟩ := hb.at_ (by rintro rfl; simp at hv)
  have hne' : b2 ≠ g := hne _ rfl
  have hvl : vs.length ≤ 100000 := by omega
  have hHN := Lib.hid hn
  go_enter Try.func76, Try.ntmps76
  clear hn
  go_wp2
  go_loopw [4, 9] (fun cv i wr => ∃ (k : Nat) (ws : List Nat) (cr : Nat), k ≤ vs.length ∧ i = .int .i64 k ∧ cv = .int .u32 cr ∧ AgainTo us vs j k ws cr ∧ Row wr g ws ∧ w.grownBy wr (some g)) (fun _ i _ => vs.length - (intOf i).toNat)
  case atStart => exact ⟨0, us, 0, by omega, rfl, rfl, AgainTo.zero ho j, hr, gb_refl _ _⟩
  case round =>
    obtain ⟨k, ws, cr, hk, rfl, rfl, hlt0, hrow, hg⟩ := hrel
    clear hr
    have hcr := hlt0.2.2.1
    have hok := hlt0.1
    have hwl : ws.length = j + n := hlt0.2.1.trans hHN.out
    have HL := Lib.hid hlt0
    have hjk : j + k < ws.length := by omega
    have HW := Lib.hid hwl
    clear hlt0 hwl
    have g3 := hrow.cell hjk
    have g4 := hrow.frozen (j + k)
    have hd3 := hok.get hjk
    generalize hoi : ws[j + k] = ui at *
    have HO := Lib.hid hoi
    clear hoi
    by_cases hlt : k < vs.length
    · have g1 : wr.cell? ⟨b2, o2 + k, none⟩ = some (.int .u32 (vs[k]'hlt)) := hg.cell (hc2 k hlt) (by simpa using hne')
      have hd1 := hb.ok.get hlt
      have HD1 := Lib.hid (at0_in hlt)
      generalize hxi : vs[k] = di at *
      clear hxi
      have hc1 := Lib.hid hc2
      clear hc2
      go_wp2_with (go_at_call 63; refine (add32_any _ _ _ _ (by omega) (by omega) (by omega) (by omega) (by omega) (by omega)).mono ?_; rintro e w' ⟨⟨s, qq, rfl, hs', hqq, hsum⟩, rfl⟩; have HS := Lib.hid hsum; clear hsum)
      go_roundw
      case rel => exact ⟨k + 1, ws.set (j + k) s, qq, by omega, by go_num, rfl, HL.out.step hjk hs' hqq (by rw [HD1.out, HO.out]; have := HS.out; omega), hrow.set _ _ rfl, gb_set hg _ _⟩
      case measure => simp [intOf]; omega
    · have hkl : k = vs.length := by omega
      subst hkl
      clear hc2 hk hlt
      go_wp2
      go_end0
      exact ⟨⟨rfl, ws.set (j + vs.length) ((ui + cr) % 4294967296), HL.out.last (c' := (ui + cr) / 4294967296) rfl hjk (by omega) (by omega) (by rw [HO.out]; omega), hrow.set _ _ (by omega)⟩, gb_set hg _ _⟩

end Go.Proofs.Ytlmgdhdakeekkaa

/-
  The head of the cut, word by word: what the rows' closed facts ask of it.
-/
import Derived.Test.YtdhikpfppbcjkaaRows
import Derived.JoinedOf
import Derived.KernelRfl
namespace Go.Proofs.Ytdhikpfppbcjkaa

theorem ws_word (a : List Char) (h : ∀ c ∈ a, c ≠ Char.ofNat 32) (r : List Char) : wordsSigns (a ++ Char.ofNat 32 :: r) = a :: wordsSigns r := by
  induction a with
  | nil => rfl
  | cons c a ih =>
    have h1 := ih (fun x hx => h x (List.mem_cons_of_mem _ hx))
    have hc : c ≠ Char.ofNat 32 := h c List.mem_cons_self
    show wordsSigns (c :: (a ++ Char.ofNat 32 :: r)) = _
    generalize wordsSigns r = W at *
    unfold wordsSigns
    split
    · rename_i heq
      cases heq
    · rename_i heq
      injection heq with h2 _
      exact absurd h2 hc
    · rename_i heq
      injection heq with h2 h3
      subst h2 h3
      rw [h1]

def hw : List Char := ([104, 97, 114, 110, 101, 115, 115] : List Nat).map Char.ofNat
def sw : List Char := ([57, 102, 54, 49, 100, 51, 102, 97, 49, 99, 98, 101, 56, 100, 54, 97, 57, 49, 54, 57, 50, 57, 56, 51, 52, 48, 48, 50, 98, 100, 98, 49, 49, 100, 100, 57, 55, 48, 56, 51, 50, 98, 49, 53, 56, 48, 52, 97, 97, 57, 57, 99, 52, 97, 100, 51, 54, 51, 48, 99, 49, 54, 52, 102] : List Nat).map Char.ofNat
def cw : List Char := ([99, 117, 116] : List Nat).map Char.ofNat
def tw : List Char := ([97, 116, 32, 116, 111, 117, 99, 104, 115, 116, 111, 110, 101, 47, 116, 111, 117, 99, 104, 115, 116, 111, 110, 101, 108, 97, 119, 48, 52, 46, 82, 97, 116, 105, 111, 77, 97, 107, 101, 115, 32, 116, 111, 117, 99, 104, 115, 116, 111, 110, 101, 47, 116, 111, 117, 99, 104, 115, 116, 111, 110, 101, 108, 97, 119, 48, 52, 46, 82, 97, 116, 105, 111, 82, 111, 117, 110, 100, 115, 32, 116, 111, 117, 99, 104, 115, 116, 111, 110, 101, 47, 116, 111, 117, 99, 104, 115, 116, 111, 110, 101, 108, 97, 119, 48, 52, 46, 82, 97, 116, 105, 111, 77, 117, 108, 115, 32, 116, 111, 117, 99, 104, 115, 116, 111, 110, 101, 47, 116, 111, 117, 99, 104, 115, 116, 111, 110, 101, 108, 97, 119, 48, 52, 46, 82, 97, 116, 105, 111, 76, 97, 119, 115, 32, 116, 111, 117, 99, 104, 115, 116, 111, 110, 101, 47, 116, 111, 117, 99, 104, 115, 116, 111, 110, 101, 108, 97, 119, 48, 52, 46, 82, 97, 116, 105, 111, 79, 114, 100, 101, 114, 32, 116, 111, 117, 99, 104, 115, 116, 111, 110, 101, 47, 116, 111, 117, 99, 104, 115, 116, 111, 110, 101, 108, 97, 119, 48, 52, 46, 82, 97, 116, 105, 111, 83, 117, 109, 115, 32, 116, 111, 117, 99, 104, 115, 116, 111, 110, 101, 47, 116, 111, 117, 99, 104, 115, 116, 111, 110, 101, 108, 97, 119, 48, 52, 46, 82, 97, 116, 105, 111, 66, 101, 116, 119, 101, 101, 110, 32, 116, 111, 117, 99, 104, 115, 116, 111, 110, 101, 47, 116, 111, 117, 99, 104, 115, 116, 111, 110, 101, 108, 97, 119, 48, 52, 46, 82, 97, 116, 105, 111, 87, 104, 111, 108, 101] : List Nat).map Char.ofNat
theorem order_is : Try.prog.initOrder = String.ofList (hw ++ Char.ofNat 32 :: (sw ++ Char.ofNat 32 :: (cw ++ Char.ofNat 32 :: tw))) := by kernel_rfl
theorem hw_ok : ∀ c ∈ hw, c ≠ Char.ofNat 32 := by decide
theorem sw_ok : ∀ c ∈ sw, c ≠ Char.ofNat 32 := by decide +kernel
theorem cw_ok : ∀ c ∈ cw, c ≠ Char.ofNat 32 := by decide
theorem words : wordsSigns Try.prog.initOrder.toList = hw :: sw :: cw :: wordsSigns tw := by
  rw [order_is, String.toList_ofList, ws_word _ hw_ok, ws_word _ sw_ok, ws_word _ cw_ok]
theorem behind (R : List (List Char)) : behindMainWord (hw :: sw :: R) = R := by
  have h : ((hw == "harness".toList || hw == "ownmain".toList) && isSumSigns sw) = true := by kernel_rfl
  simp only [behindMainWord]
  rw [if_pos h]
theorem head_is : behindMainWord (wordsSigns Try.prog.initOrder.toList) = cw :: wordsSigns tw := by rw [words, behind]
theorem strip_is (R : List (List Char)) : stripLifts liftWords (cw :: R) = ([], cw :: R) := by kernel_rfl
theorem mayEnter_of (P : Program) (R : List (List Char)) (h : behindMainWord (wordsSigns P.initOrder.toList) = cw :: R) (h1 : P.laysLater = false) (h2 : P.bearsReflect = false) (h3 : P.doorFits [] = true) : P.mayEnter = true := by
  have ec : cw = "cut".toList := by kernel_rfl
  unfold Program.mayEnter
  rw [h]
  simp [strip_is R, h1, h2, h3]
  right
  simpa using ec
theorem headLifts_of (P : Program) (R : List (List Char)) (h : behindMainWord (wordsSigns P.initOrder.toList) = cw :: R) : P.headLifts = [] := by
  unfold Program.headLifts
  rw [h]
  simp only [strip_is R]
  split <;> rfl
theorem liftsFinal_of (P : Program) (R : List (List Char)) (h : behindMainWord (wordsSigns P.initOrder.toList) = cw :: R) : P.liftsFinal = false := by
  have e2 : ((some cw : Option (List Char)) == some "carried".toList) = false := by kernel_rfl
  unfold Program.liftsFinal
  rw [h, headLifts_of P R h]
  show ((some cw == some "carried".toList) && _ || _) = false
  rw [e2]
  rfl
theorem make_of (P : Program) (R : List (List Char)) (h : behindMainWord (wordsSigns P.initOrder.toList) = cw :: R) : P.make = some .cut := by
  have e1 : (cw == "gc".toList || cw == "spec".toList) = false := by kernel_rfl
  have e2 : (cw == "cut".toList) = true := by kernel_rfl
  unfold Program.make
  rw [h]
  show (if (cw == "gc".toList || cw == "spec".toList) = true then _ else if (cw == "cut".toList || _) = true then _ else _) = _
  rw [if_neg (by rw [e1]; decide), if_pos (by rw [e2]; rfl)]
theorem laysLater_is : Try.prog.laysLater = false := by kernel_rfl
theorem bearsReflect_is : Try.prog.bearsReflect = false := by kernel_rfl
theorem doorFits_is : Try.prog.doorFits [] = true := by kernel_rfl
theorem mayEnter_is : Try.prog.mayEnter = true := mayEnter_of _ _ head_is laysLater_is bearsReflect_is doorFits_is
theorem liftsFinal_is : Try.prog.liftsFinal = false := liftsFinal_of _ _ head_is
theorem make_is : Try.prog.make = some .cut := make_of _ _ head_is
end Go.Proofs.Ytdhikpfppbcjkaa

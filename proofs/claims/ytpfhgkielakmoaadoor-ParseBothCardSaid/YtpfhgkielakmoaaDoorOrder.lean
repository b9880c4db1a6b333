/-
  The head of the cut, word by word: what the rows' closed facts ask of it.
-/
import Derived.Test.YtpfhgkielakmoaaDoorRows
import Derived.JoinedOf
import Derived.KernelRfl
namespace Go.Proofs.YtpfhgkielakmoaaDoor

theorem ws_word (a : List Char) (h : ∀ c ∈ a, c ≠ Char.ofNat 32) (r : List Char) : wordsSigns (a ++ Char.ofNat 32 :: r) = a :: wordsSigns r := by
  induction a with
  | nil => rfl
  | cons c a ih =>
    have h1 := ih (fun x hx => h x (List.mem_cons_of_mem _ hx))
    have hc : c ≠ Char.ofNat 32 := h c List.mem_cons_self
    show wordsSigns (c :: (a ++ Char.ofNat 32 :: r)) = _
    generalize wordsSigns r = W at *
    unfold wordsSigns
    split
    · rename_i heq
      cases heq
    · rename_i heq
      injection heq with h2 _
      exact absurd h2 hc
    · rename_i heq
      injection heq with h2 h3
      subst h2 h3
      rw [h1]

def ohw : List Char := ([104, 97, 114, 110, 101, 115, 115] : List Nat).map Char.ofNat
def osw : List Char := ([97, 98, 50, 51, 54, 52, 55, 101, 98, 100, 54, 52, 51, 55, 57, 53, 49, 48, 97, 56, 100, 53, 54, 101, 57, 102, 51, 100, 55, 97, 52, 56, 100, 102, 51, 99, 51, 49, 52, 57, 57, 54, 102, 57, 97, 49, 99, 56, 49, 99, 100, 49, 50, 100, 101, 56, 98, 99, 49, 53, 99, 98, 52, 98] : List Nat).map Char.ofNat
def ocw : List Char := ([99, 117, 116] : List Nat).map Char.ofNat
def otw : List Char := ([97, 116, 32, 116, 111, 117, 99, 104, 115, 116, 111, 110, 101, 47, 116, 111, 117, 99, 104, 115, 116, 111, 110, 101, 108, 97, 119, 48, 54, 46, 80, 97, 114, 115, 101, 80, 108, 97, 99, 101, 115, 32, 116, 111, 117, 99, 104, 115, 116, 111, 110, 101, 47, 116, 111, 117, 99, 104, 115, 116, 111, 110, 101, 108, 97, 119, 48, 54, 46, 80, 97, 114, 115, 101, 66, 111, 116, 104, 32, 116, 111, 117, 99, 104, 115, 116, 111, 110, 101, 47, 116, 111, 117, 99, 104, 115, 116, 111, 110, 101, 108, 97, 119, 48, 54, 46, 80, 97, 114, 115, 101, 69, 110, 100, 115, 32, 116, 111, 117, 99, 104, 115, 116, 111, 110, 101, 47, 116, 111, 117, 99, 104, 115, 116, 111, 110, 101, 108, 97, 119, 48, 54, 46, 80, 97, 114, 115, 101, 66, 108, 97, 110, 107] : List Nat).map Char.ofNat
theorem order_is : Tryd.prog.initOrder = String.ofList (ohw ++ Char.ofNat 32 :: (osw ++ Char.ofNat 32 :: (ocw ++ Char.ofNat 32 :: otw))) := by kernel_rfl
theorem ohw_ok : ∀ c ∈ ohw, c ≠ Char.ofNat 32 := by decide
theorem osw_ok : ∀ c ∈ osw, c ≠ Char.ofNat 32 := by decide +kernel
theorem ocw_ok : ∀ c ∈ ocw, c ≠ Char.ofNat 32 := by decide
theorem hdWords : wordsSigns Tryd.prog.initOrder.toList = ohw :: osw :: ocw :: wordsSigns otw := by
  rw [order_is, String.toList_ofList, ws_word _ ohw_ok, ws_word _ osw_ok, ws_word _ ocw_ok]
theorem behind (R : List (List Char)) : behindMainWord (ohw :: osw :: R) = R := by
  have h : ((ohw == "harness".toList || ohw == "ownmain".toList) && isSumSigns osw) = true := by kernel_rfl
  simp only [behindMainWord]
  rw [if_pos h]
theorem head_is : behindMainWord (wordsSigns Tryd.prog.initOrder.toList) = ocw :: wordsSigns otw := by rw [hdWords, behind]
theorem strip_is (R : List (List Char)) : stripLifts liftWords (ocw :: R) = ([], ocw :: R) := by kernel_rfl
theorem mayEnter_of (P : Program) (R : List (List Char)) (h : behindMainWord (wordsSigns P.initOrder.toList) = ocw :: R) (h1 : P.laysLater = false) (h2 : P.bearsReflect = false) (h3 : P.doorFits [] = true) : P.mayEnter = true := by
  have ec : ocw = "cut".toList := by kernel_rfl
  unfold Program.mayEnter
  rw [h]
  simp [strip_is R, h1, h2, h3]
  right
  simpa using ec
theorem headLifts_of (P : Program) (R : List (List Char)) (h : behindMainWord (wordsSigns P.initOrder.toList) = ocw :: R) : P.headLifts = [] := by
  unfold Program.headLifts
  rw [h]
  simp only [strip_is R]
  split <;> rfl
theorem liftsFinal_of (P : Program) (R : List (List Char)) (h : behindMainWord (wordsSigns P.initOrder.toList) = ocw :: R) : P.liftsFinal = false := by
  have e2 : ((some ocw : Option (List Char)) == some "carried".toList) = false := by kernel_rfl
  unfold Program.liftsFinal
  rw [h, headLifts_of P R h]
  show ((some ocw == some "carried".toList) && _ || _) = false
  rw [e2]
  rfl
theorem make_of (P : Program) (R : List (List Char)) (h : behindMainWord (wordsSigns P.initOrder.toList) = ocw :: R) : P.make = some .cut := by
  have e1 : (ocw == "gc".toList || ocw == "spec".toList) = false := by kernel_rfl
  have e2 : (ocw == "cut".toList) = true := by kernel_rfl
  unfold Program.make
  rw [h]
  show (if (ocw == "gc".toList || ocw == "spec".toList) = true then _ else if (ocw == "cut".toList || _) = true then _ else _) = _
  rw [if_neg (by rw [e1]; decide), if_pos (by rw [e2]; rfl)]
theorem laysLater_is : Tryd.prog.laysLater = false := by kernel_rfl
theorem bearsReflect_is : Tryd.prog.bearsReflect = false := by kernel_rfl
theorem doorFits_is : Tryd.prog.doorFits [] = true := by kernel_rfl
theorem mayEnter_is : Tryd.prog.mayEnter = true := mayEnter_of _ _ head_is laysLater_is bearsReflect_is doorFits_is
theorem liftsFinal_is : Tryd.prog.liftsFinal = false := liftsFinal_of _ _ head_is
theorem make_is : Tryd.prog.make = some .cut := make_of _ _ head_is
end Go.Proofs.YtpfhgkielakmoaaDoor

/-
  A region that draws its order, by an invariant over the orders: one step for each operation, whatever came up before.
-/
import Derived.Test.YtlmgdhdakeekkaaSgF
import Derived.Deep.RegionHeld3
set_option linter.unusedSimpArgs false
namespace Go.Proofs.Ytlmgdhdakeekkaa
open Go.RowKit

section
variable {P : Program} {ops : Array Oper} {Q : Exit → Act → World → Prop} {md : Region.Mode}
theorem ready_false {listed : Array Bool} {i : Nat} (h : i ∈ Region.ready md ops listed) : listed[i]? = some false := by
  unfold Region.ready at h
  rw [List.mem_filter] at h
  have h2 := h.2
  rw [Bool.and_eq_true] at h2
  have h3 := h2.1
  simp only [Array.getD_eq_getD_getElem?] at h3
  cases hx : listed[i]? with
  | none => rw [hx] at h3; simp at h3
  | some b => rw [hx] at h3; cases b <;> simp at h3 ⊢
theorem count_set {l : List Bool} {i : Nat} (h : l[i]? = some false) : (l.set i true).count false + 1 = l.count false := by
  induction l generalizing i with
  | nil => simp at h
  | cons b l ih =>
    cases i with
    | zero =>
      simp at h
      subst h
      simp
    | succ i =>
      simp at h
      have := ih h
      cases b <;> simp [List.count_cons] at this ⊢ <;> omega
theorem wpAnyH_inv {I : Array Bool → Act → World → Prop}
    (hstep : ∀ listed a w i, i ∈ Region.ready md ops listed → I listed a w → wpOp P ops Q i (fun a' w' => I (listed.setIfInBounds i true) a' w') a w)
    (hend : ∀ listed a w, Region.ready md ops listed = [] → I listed a w → Q .normal a w) :
    ∀ (fuel : Nat) (listed : Array Bool) (a : Act) (w : World), listed.toList.count false ≤ fuel → I listed a w → wpAnyH P md ops Q (fun _ => True) fuel listed a w := by
  intro fuel
  induction fuel with
  | zero =>
    intro listed a w hc hI
    have hr : Region.ready md ops listed = [] := by
      rw [List.eq_nil_iff_forall_not_mem]
      intro i hi
      have h1 := ready_false hi
      have h2 : false ∈ listed.toList := List.mem_of_getElem? (by simpa using h1)
      have := List.count_pos_iff.2 h2
      omega
    exact ⟨hr, hend listed a w hr hI⟩
  | succ fuel ih =>
    intro listed a w hc hI
    refine ⟨fun hr => hend listed a w hr hI, fun i hi => ?_⟩
    refine wpOp_mono (fun a' w' h' => ⟨trivial, ih _ a' w' ?_ h'⟩) (hstep listed a w i hi hI)
    have h1 : listed.toList[i]? = some false := by simpa using ready_false hi
    have h2 := count_set h1
    rw [Array.toList_setIfInBounds]
    omega
theorem region_inv {id : Nat} {a : Act} {w : World} (hm : P.follows .mixedOrders = true) (I : Array Bool → Act → World → Prop) (h0 : I (Array.replicate ops.size false) a w.drew)
    (hstep : ∀ listed a w i, i ∈ Region.ready .any ops listed → I listed a w → wpOp P ops Q i (fun a' w' => I (listed.setIfInBounds i true) a' w') a w)
    (hend : ∀ listed a w, Region.ready .any ops listed = [] → I listed a w → Q .normal a w) : (Code.region id ops true).wp P Q a w :=
  wp_region_held hm (wpAnyH_inv hstep hend _ _ a _ (by simp) h0)
end
end Go.Proofs.Ytlmgdhdakeekkaa

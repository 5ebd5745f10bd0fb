/- A region that draws its order, by an invariant over what has been listed. -/
import Derived.Test.YtigaemjkdgpceaaF
namespace Go.Proofs.Ytigaemjkdgpceaa
open Go
set_option linter.unusedVariables false

theorem wp_region_inv {P : Program} {id : Nat} {ops : Array Oper} {Q : Exit → Act → World → Prop} {a : Act} {w : World} (hm : P.follows .mixedOrders = true) (Inv : Array Bool → Act → World → Prop)
    (h0 : Inv (Array.replicate ops.size false) a w.drew)
    (hstep : ∀ listed a w, Inv listed a w → ∀ i ∈ Region.ready .any ops listed, wpOp P ops Q i (Inv (listed.setIfInBounds i true)) a w)
    (hend : ∀ listed a w, Inv listed a w → Region.ready .any ops listed = [] → Q .normal a w) : (Code.region id ops true).wp P Q a w := by
  have key : ∀ fuel (listed : Array Bool) a w, listed.toList.count false ≤ fuel → Inv listed a w → wpAny P .any ops Q fuel listed a w := by
    intro fuel
    induction fuel with
    | zero =>
      intro listed a w hc hI
      have hr : Region.ready .any ops listed = [] := by
        rw [List.eq_nil_iff_forall_not_mem]
        intro j hj
        have h1 := (mem_ready.1 hj).1
        have hlt : j < listed.size := by
          rcases Nat.lt_or_ge j listed.size with h | h
          · exact h
          · rw [Array.getD_eq_getD_getElem?, Array.getElem?_eq_none h] at h1; cases h1
        have h2 : listed[j] = false := by rw [Array.getD_eq_getD_getElem?, Array.getElem?_eq_getElem hlt] at h1; exact h1
        have h3 : false ∈ listed.toList := by rw [← h2]; exact Array.getElem_mem_toList hlt
        have := List.count_pos_iff.2 h3
        omega
      exact ⟨hr, hend _ _ _ hI hr⟩
    | succ n ih =>
      intro listed a w hc hI
      refine ⟨fun hr => hend _ _ _ hI hr, fun i hi => ?_⟩
      have h1 := (mem_ready.1 hi).1
      have hlt : i < listed.size := by
        rcases Nat.lt_or_ge i listed.size with h | h
        · exact h
        · rw [Array.getD_eq_getD_getElem?, Array.getElem?_eq_none h] at h1; cases h1
      have h2 : listed[i] = false := by rw [Array.getD_eq_getD_getElem?, Array.getElem?_eq_getElem hlt] at h1; exact h1
      have hc' : (listed.setIfInBounds i true).toList.count false ≤ n := by
        rw [Array.toList_setIfInBounds, List.count_set (by simpa using hlt)]
        have h3 : false ∈ listed.toList := by rw [← h2]; exact Array.getElem_mem_toList hlt
        have := List.count_pos_iff.2 h3
        have h4 : (listed.toList[i]'(by simpa using hlt) == false) = true := by simp [h2]
        rw [if_pos h4, if_neg (by decide)]
        omega
      exact wpOp_mono (fun a' w' hI' => ih _ a' w' hc' hI') (hstep _ _ _ hI i hi)
  exact wp_region_any hm (key _ _ _ _ (by
    simp) h0)
theorem wpOp_list {P : Program} {ops : Array Oper} {Q : Exit → Act → World → Prop} {i : Nat} {K : Act → World → Prop} {a : Act} {w : World} {o : Oper} (ho : ops[i]? = some o) (h : wpList P ops (Exit.then K Q) [o] a w) : wpOp P ops Q i K a w := by
  unfold wpOp
  rw [ho]
  unfold wpList at h
  by_cases hw : Region.wanted o (yielded ops a.tmps) = true
  · rw [if_pos hw] at h
    simp only [hw, if_true]
    rcases h with h | ⟨h1, h2⟩
    · refine .inl ?_
      unfold Oper.wp at *
      generalize (execOp a.eval o).run P w = r at *
      cases r with
      | ok n w' =>
        cases n <;> exact h
      | halt x w' => cases x <;> exact h
    · exact .inr ⟨h1, h2⟩
  · rw [if_neg hw] at h
    simp only [hw]
    exact h
theorem wpOp_step {P : Program} {ops : Array Oper} {Q : Exit → Act → World → Prop} {i : Nat} {K0 : Act → World → Prop} {a : Act} {w : World} {o : Oper} (ho : ops[i]? = some o) (h : ∀ K : Act → World → Prop, (∀ a w, K0 a w → K a w) → wpList P ops (Exit.then K Q) [o] a w) : wpOp P ops Q i K0 a w := wpOp_list ho (h K0 fun _ _ h => h)
end Go.Proofs.Ytigaemjkdgpceaa

/- How any two end side by side is what the document says, whatever their order, for every two numbers: no condition. -/
import Derived.Test.YtnlljjcbfhagfaaPSx4
namespace Go.Proofs.Ytnlljjcbfhagfaa.Pure
open Go.RowKit Go.Proofs.Ytnlljjcbfhagfaa Go.Proofs.Ytnlljjcbfhagfaa.PS Go.Proofs.YtnlljjcbfhagfaaW.PrintWords Go.Proofs.YtnlljjcbfhagfaaW.PrintLast

theorem refIs (a : Int) : redressref01_Is.f a = some (decide (1 ≤ a ∧ a ≤ 3)) := by
  unfold redressref01_Is.f
  by_cases h1 : a = 1
  · simp [h1]
  by_cases h2 : a = 2
  · simp [h2]
  rw [if_neg h1, if_neg h2]
  by_cases h3 : a = 3
  · simp [h3]
  · have : ¬ (1 ≤ a ∧ a ≤ 3) := by omega
    simp [h3, this]

theorem refBoth (k : Nat) (a b : Int) : redressref01_Both.f (k + 2) a b = some (bothOf a b) := by
  unfold redressref01_Both.f bothOf
  simp only [refIs, Option.bind_some, redressref01_Both.j0, redressref01_Both.j1]
  by_cases ha : 1 ≤ a ∧ a ≤ 3
  · by_cases hb : 1 ≤ b ∧ b ≤ 3
    · simp only [ha, hb, and_self, decide_true, not_true, or_self, if_true, if_false, Bool.not_true, Bool.false_eq_true]
      by_cases h1 : a = 2
      · simp [h1]
      by_cases h2 : b = 2
      · simp [h1, h2]
      · simp only [h1, h2, or_self, if_false, beq_iff_eq]
        by_cases h3 : a = 3
        · subst h3; simp; omega
        · by_cases h4 : b = 3
          · subst h4; simp [h3]; omega
          · simp [h3, h4]; omega
    · simp [ha, hb]
  · simp [ha]

theorem both_comm (a b : Int) : bothOf a b = bothOf b a := by
  unfold bothOf
  by_cases ha : 1 ≤ a ∧ a ≤ 3 <;> by_cases hb : 1 ≤ b ∧ b ≤ 3 <;> by_cases h1 : a = 2 <;> by_cases h2 : b = 2 <;> simp [ha, hb, h1, h2]
  omega

theorem SignBoth : redresslaw01_SignBoth.Pure := by
  intro a b _ _
  refine ⟨0 + 2, ?_⟩
  unfold redresslaw01_SignBoth.f redresslaw01_alive.f
  simp only [refBoth, sign_Both.f, Option.bind_some, if_true]
  simp [both_comm a b]

end Go.Proofs.Ytnlljjcbfhagfaa.Pure

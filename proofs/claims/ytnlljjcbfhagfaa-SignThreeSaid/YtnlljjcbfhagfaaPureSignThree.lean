/- How three end hangs not on how they are put together, for every three numbers: no condition. -/
import Derived.Test.YtnlljjcbfhagfaaPSx4
namespace Go.Proofs.Ytnlljjcbfhagfaa.Pure
open Go.RowKit Go.Proofs.Ytnlljjcbfhagfaa Go.Proofs.Ytnlljjcbfhagfaa.PS Go.Proofs.YtnlljjcbfhagfaaW.PrintWords Go.Proofs.YtnlljjcbfhagfaaW.PrintLast

theorem both_le (a b : Int) : bothOf a b = 0 ∨ (1 ≤ bothOf a b ∧ bothOf a b ≤ 3) := by
  unfold bothOf; split
  · exact .inl rfl
  · right; split
    · omega
    · split <;> omega
theorem both_zero (a b : Int) (h : ¬ (1 ≤ a ∧ a ≤ 3) ∨ ¬ (1 ≤ b ∧ b ≤ 3)) : bothOf a b = 0 := by unfold bothOf; rw [if_pos h]
theorem both_in (a b : Int) (ha : 1 ≤ a ∧ a ≤ 3) (hb : 1 ≤ b ∧ b ≤ 3) : bothOf a b = if a = 2 ∨ b = 2 then 2 else if a < b then b else a := by
  unfold bothOf; rw [if_neg (by omega)]
theorem both_good (a b : Int) (ha : 1 ≤ a ∧ a ≤ 3) (hb : 1 ≤ b ∧ b ≤ 3) : 1 ≤ bothOf a b ∧ bothOf a b ≤ 3 := by
  rw [both_in a b ha hb]; split
  · omega
  · split <;> omega
theorem both_assoc (a b c : Int) : bothOf (bothOf a b) c = bothOf a (bothOf b c) := by
  by_cases ha : 1 ≤ a ∧ a ≤ 3
  · by_cases hb : 1 ≤ b ∧ b ≤ 3
    · by_cases hc : 1 ≤ c ∧ c ≤ 3
      · rw [both_in _ c (both_good a b ha hb) hc, both_in a _ ha (both_good b c hb hc), both_in a b ha hb, both_in b c hb hc]
        repeat' split
        all_goals omega
      · rw [both_zero _ c (.inr hc), both_zero b c (.inr hc), both_zero a 0 (.inr (by omega))]
    · rw [both_zero a b (.inr hb), both_zero b c (.inl hb), both_zero a 0 (.inr (by omega)), both_zero 0 c (.inl (by omega))]
  · rw [both_zero a b (.inl ha), both_zero a _ (.inl ha), both_zero 0 c (.inl (by omega))]
theorem both_comm (a b : Int) : bothOf a b = bothOf b a := by
  unfold bothOf
  by_cases ha : 1 ≤ a ∧ a ≤ 3 <;> by_cases hb : 1 ≤ b ∧ b ≤ 3 <;> by_cases h1 : a = 2 <;> by_cases h2 : b = 2 <;> simp [ha, hb, h1, h2]
  omega

theorem SignThree : redresslaw01_SignThree.Pure := by
  intro a b c _ _ _
  unfold redresslaw01_SignThree.f redresslaw01_alive.f
  simp only [sign_Both.f, sign_All.f, Option.bind_some, if_true, both_assoc, List.foldl]
  have : bothOf 1 (bothOf a (bothOf b c)) = bothOf 1 (bothOf c (bothOf a b)) := by
    rw [both_comm c, both_assoc]
  simp [this]

end Go.Proofs.Ytnlljjcbfhagfaa.Pure

/- All of a row in two parts ends as both of the parts, for every two rows of numbers: no condition. -/
import Derived.Test.YtnlljjcbfhagfaaPZx1
namespace Go.Proofs.Ytnlljjcbfhagfaa.Pure
open Go.RowKit Go.Proofs.Ytnlljjcbfhagfaa Go.Proofs.Ytnlljjcbfhagfaa.PZ Go.Proofs.YtnlljjcbfhagfaaW.PrintWords Go.Proofs.YtnlljjcbfhagfaaW.PrintLast

theorem both_zero (a b : Int) (h : ¬ (1 ≤ a ∧ a ≤ 3) ∨ ¬ (1 ≤ b ∧ b ≤ 3)) : bothOf a b = 0 := by unfold bothOf; rw [if_pos h]
theorem both_in (a b : Int) (ha : 1 ≤ a ∧ a ≤ 3) (hb : 1 ≤ b ∧ b ≤ 3) : bothOf a b = if a = 2 ∨ b = 2 then 2 else if a < b then b else a := by
  unfold bothOf; rw [if_neg (by omega)]
theorem both_good (a b : Int) (ha : 1 ≤ a ∧ a ≤ 3) (hb : 1 ≤ b ∧ b ≤ 3) : 1 ≤ bothOf a b ∧ bothOf a b ≤ 3 := by
  rw [both_in a b ha hb]; split
  · omega
  · split <;> omega
theorem both_assoc (a b c : Int) : bothOf (bothOf a b) c = bothOf a (bothOf b c) := by
  by_cases ha : 1 ≤ a ∧ a ≤ 3
  · by_cases hb : 1 ≤ b ∧ b ≤ 3
    · by_cases hc : 1 ≤ c ∧ c ≤ 3
      · rw [both_in _ c (both_good a b ha hb) hc, both_in a _ ha (both_good b c hb hc), both_in a b ha hb, both_in b c hb hc]
        repeat' split
        all_goals omega
      · rw [both_zero _ c (.inr hc), both_zero b c (.inr hc), both_zero a 0 (.inr (by omega))]
    · rw [both_zero a b (.inr hb), both_zero b c (.inl hb), both_zero a 0 (.inr (by omega)), both_zero 0 c (.inl (by omega))]
  · rw [both_zero a b (.inl ha), both_zero a _ (.inl ha), both_zero 0 c (.inl (by omega))]
theorem both_one (a : Int) (ha : a = 0 ∨ (1 ≤ a ∧ a ≤ 3)) : bothOf a 1 = a := by
  rcases ha with rfl | ha
  · exact both_zero _ _ (.inl (by omega))
  · rw [both_in a 1 ha (by omega)]
    repeat' split
    all_goals omega
theorem both_le (a b : Int) : bothOf a b = 0 ∨ (1 ≤ bothOf a b ∧ bothOf a b ≤ 3) := by
  by_cases h : ¬ (1 ≤ a ∧ a ≤ 3) ∨ ¬ (1 ≤ b ∧ b ≤ 3)
  · exact .inl (both_zero a b h)
  · exact .inr (both_good a b (by omega) (by omega))
theorem fold_both (l : List Int) : ∀ a : Int, (a = 0 ∨ (1 ≤ a ∧ a ≤ 3)) → l.foldl bothOf a = bothOf a (l.foldl bothOf 1) := by
  induction l with
  | nil => intro a ha; exact (both_one a ha).symm
  | cons x l ih =>
    intro a ha
    simp only [List.foldl]
    rw [ih (bothOf a x) (both_le a x), ih (bothOf 1 x) (both_le 1 x), both_assoc a x, ← both_assoc a (bothOf 1 x), ← both_assoc a 1 x, both_one a ha, both_assoc a x]
theorem fold_good (l : List Int) : ∀ a : Int, (a = 0 ∨ (1 ≤ a ∧ a ≤ 3)) → (l.foldl bothOf a = 0 ∨ (1 ≤ l.foldl bothOf a ∧ l.foldl bothOf a ≤ 3)) := by
  induction l with
  | nil => intro a ha; exact ha
  | cons x l ih => intro a ha; exact ih _ (both_le a x)

theorem SignParts : redresslaw01_SignParts.Pure := by
  intro a b _ _ _ _ _ _
  unfold redresslaw01_SignParts.f
  split
  · rfl
  · rw [List.foldl_append, fold_both b _ (fold_good a 1 (.inr (by omega)))]
    simp
end Go.Proofs.Ytnlljjcbfhagfaa.Pure

/- How any number of them end is what the document says, for every row of numbers: no condition. -/
import Derived.Test.YtnlljjcbfhagfaaPSx5
namespace Go.Proofs.Ytnlljjcbfhagfaa.Pure
open Go.RowKit Go.Proofs.Ytnlljjcbfhagfaa Go.Proofs.Ytnlljjcbfhagfaa.PS Go.Proofs.YtnlljjcbfhagfaaW.PrintWords Go.Proofs.YtnlljjcbfhagfaaW.PrintLast

theorem refIs (a : Int) : redressref01_Is.f a = some (decide (1 ≤ a ∧ a ≤ 3)) := by
  unfold redressref01_Is.f
  by_cases h1 : a = 1
  · simp [h1]
  by_cases h2 : a = 2
  · simp [h2]
  rw [if_neg h1, if_neg h2]
  by_cases h3 : a = 3
  · simp [h3]
  · have : ¬ (1 ≤ a ∧ a ≤ 3) := by omega
    simp [h3, this]

theorem refBoth (k : Nat) (a b : Int) : redressref01_Both.f (k + 2) a b = some (bothOf a b) := by
  unfold redressref01_Both.f bothOf
  simp only [refIs, Option.bind_some, redressref01_Both.j0, redressref01_Both.j1]
  by_cases ha : 1 ≤ a ∧ a ≤ 3
  · by_cases hb : 1 ≤ b ∧ b ≤ 3
    · simp only [ha, hb, and_self, decide_true, not_true, or_self, if_true, if_false, Bool.not_true, Bool.false_eq_true]
      by_cases h1 : a = 2
      · simp [h1]
      by_cases h2 : b = 2
      · simp [h1, h2]
      · simp only [h1, h2, or_self, if_false, beq_iff_eq]
        by_cases h3 : a = 3
        · subst h3; simp; omega
        · by_cases h4 : b = 3
          · subst h4; simp [h3]; omega
          · simp [h3, h4]; omega
    · simp [ha, hb]
  · simp [ha]

theorem wrap_next (i : Nat) (h : i ≤ 1000) : wrap64 ((i : Int) + 1) = ((i + 1 : Nat) : Int) := by
  unfold wrap64; omega

theorem refAll (l : List Int) (hl : l.length ≤ 1000) (d : Nat) : ∀ (k i : Nat) (acc : Int), i + d = l.length → acc = (l.take i).foldl bothOf 1 → d + 3 < k →
    redressref01_All.l0 k l acc i = some (l.foldl bothOf 1) := by
  induction d with
  | zero =>
    intro k i acc hi ha hk
    obtain ⟨k, rfl⟩ : ∃ m, k = m + 1 := ⟨k - 1, by omega⟩
    simp only [redressref01_All.l0]
    rw [if_neg (by omega), ha, List.take_of_length_le (by omega)]
  | succ d ih =>
    intro k i acc hi ha hk
    obtain ⟨k, rfl⟩ : ∃ m, k = m + 1 := ⟨k - 1, by omega⟩
    have hB := refBoth (k - 2) acc (rd l (i : Int))
    rw [show k - 2 + 2 = k from by omega] at hB
    simp only [redressref01_All.l0]
    rw [if_pos (by omega), if_pos (by omega), hB]
    simp only [Option.bind_some]
    rw [wrap_next i (by omega)]
    exact ih k (i + 1) _ (by omega) (by rw [foldl_take_succ l i (by omega), ha]) (by omega)

theorem SignAll : redresslaw01_SignAll.Pure := by
  intro l _ _ _
  unfold redresslaw01_SignAll.f redresslaw01_alive.f
  by_cases h : (l.length : Int) > 1000
  · exact ⟨0, by rw [if_pos h]; rfl⟩
  · refine ⟨l.length + 4, ?_⟩
    rw [if_neg h]
    unfold redressref01_All.f
    have := refAll l (by omega) l.length (l.length + 4) 0 1 (by omega) rfl (by omega)
    simp only [Int.natCast_zero] at this
    simp only [Option.bind_some, if_true, this, sign_All.f]
    simp

end Go.Proofs.Ytnlljjcbfhagfaa.Pure

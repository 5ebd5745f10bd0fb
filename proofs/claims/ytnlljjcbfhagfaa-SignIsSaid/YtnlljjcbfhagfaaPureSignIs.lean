/- Which signs there are, their texts, and the sign of any text are what the document says, for every number and every text: no condition. -/
import Derived.Test.YtnlljjcbfhagfaaPSx2
namespace Go.Proofs.Ytnlljjcbfhagfaa.Pure
open Go.RowKit Go.Proofs.Ytnlljjcbfhagfaa Go.Proofs.Ytnlljjcbfhagfaa.PS Go.Proofs.YtnlljjcbfhagfaaW.PrintWords Go.Proofs.YtnlljjcbfhagfaaW.PrintLast

theorem refIs (a : Int) : redressref01_Is.f a = some (decide (1 ≤ a ∧ a ≤ 3)) := by
  unfold redressref01_Is.f
  by_cases h1 : a = 1
  · simp [h1]
  by_cases h2 : a = 2
  · simp [h2]
  rw [if_neg h1, if_neg h2]
  by_cases h3 : a = 3
  · simp [h3]
  · have : ¬ (1 ≤ a ∧ a ≤ 3) := by omega
    simp [h3, this]

theorem refText (a : Int) : redressref01_Text.f a = sign_Text.f a := by
  unfold redressref01_Text.f sign_Text.f
  repeat' split
  all_goals rfl

theorem refOf (s : ByteArray) : redressref01_Of.f 5 s = sign_Of.f s := by
  unfold redressref01_Of.f sign_Of.f
  have w1 : wrap64 (1 + 1) = 2 := by unfold wrap64; omega
  have w2 : wrap64 (2 + 1) = 3 := by unfold wrap64; omega
  have w3 : wrap64 (3 + 1) = 4 := by unfold wrap64; omega
  have t1 : redressref01_Text.f 1 = some ⟨#[111, 107]⟩ := rfl
  have t2 : redressref01_Text.f 2 = some ⟨#[33]⟩ := rfl
  have t3 : redressref01_Text.f 3 = some ⟨#[63]⟩ := rfl
  have l1 : (⟨#[111, 107]⟩ : ByteArray).toList = [111, 107] := by decide +kernel
  have l2 : (⟨#[33]⟩ : ByteArray).toList = [33] := by decide +kernel
  have l3 : (⟨#[63]⟩ : ByteArray).toList = [63] := by decide +kernel
  simp only [redressref01_Of.l0, t1, t2, t3, w1, w2, w3, Option.bind_some, l1, l2, l3]
  simp only [show (1 : Int) ≤ 3 from by decide, show (2 : Int) ≤ 3 from by decide, show (3 : Int) ≤ 3 from by decide, show ¬ ((4 : Int) ≤ 3) from by decide, if_true, if_false]
  by_cases e1 : s.toList = [111, 107]
  · simp [e1]
  by_cases e2 : s.toList = [33]
  · simp [e2]
  by_cases e3 : s.toList = [63]
  · simp [e3]
  rw [if_neg (fun h => e1 h.symm), if_neg (fun h => e2 h.symm), if_neg (fun h => e3 h.symm), if_neg e1, if_neg e2, if_neg e3]

theorem SignIs : redresslaw01_SignIs.Pure := by
  intro a s _ _
  refine ⟨5, ?_⟩
  unfold redresslaw01_SignIs.f redresslaw01_alive.f
  simp only [refOf, refIs, refText, sign_Is.f, Option.bind_some, if_true, BEq.rfl]
  split
  · rfl
  · unfold sign_Of.f sign_Text.f
    have l1 : (⟨#[111, 107]⟩ : ByteArray).toList = [111, 107] := by decide +kernel
    have l2 : (⟨#[33]⟩ : ByteArray).toList = [33] := by decide +kernel
    have l3 : (⟨#[63]⟩ : ByteArray).toList = [63] := by decide +kernel
    by_cases e1 : s.toList = [111, 107]
    · simp [e1, l1]
    by_cases e2 : s.toList = [33]
    · simp [e2, l2]
    by_cases e3 : s.toList = [63]
    · simp [e3, l3]
    · simp [e1, e2, e3]

end Go.Proofs.Ytnlljjcbfhagfaa.Pure

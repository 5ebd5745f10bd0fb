/- A sign with itself, and with Tick, is itself; with Bang it is Bang, for every number: no condition. -/
import Derived.Test.YtnlljjcbfhagfaaPSx6
namespace Go.Proofs.Ytnlljjcbfhagfaa.Pure
open Go.RowKit Go.Proofs.Ytnlljjcbfhagfaa Go.Proofs.Ytnlljjcbfhagfaa.PS Go.Proofs.YtnlljjcbfhagfaaW.PrintWords Go.Proofs.YtnlljjcbfhagfaaW.PrintLast

theorem SignSame : redresslaw01_SignSame.Pure := by
  intro a _
  unfold redresslaw01_SignSame.f redresslaw01_alive.f
  simp only [sign_Is.f, sign_Both.f, Option.bind_some, if_true]
  by_cases h : 1 ≤ a ∧ a ≤ 3
  · have e1 : bothOf a a = a := by unfold bothOf; rw [if_neg (by omega)]; split <;> omega
    have e2 : bothOf a 1 = a := by unfold bothOf; rw [if_neg (by omega)]; repeat' split
                                   all_goals omega
    have e3 : bothOf 2 a = 2 := by unfold bothOf; rw [if_neg (by omega)]; simp
    simp [h, e1, e2, e3]
  · have e1 : bothOf a a = 0 := by unfold bothOf; rw [if_pos (.inl h)]
    simp [h, e1]

end Go.Proofs.Ytnlljjcbfhagfaa.Pure

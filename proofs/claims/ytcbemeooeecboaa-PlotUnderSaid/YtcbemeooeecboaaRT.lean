/- plot.Turn and the reference's: their contracts. -/
import Derived.Test.YtcbemeooeecboaaRE
import Derived.Test.YtcbemeooeecboaaFA
namespace Go.Proofs.Ytcbemeooeecboaa.Rng
open Go Go.RowKit Go.Shelf Go.Proofs.Tree Go.Proofs.Flt Go.Proofs.YtcbemeooeecboaaW.PrintWords Go.Proofs.YtcbemeooeecboaaW.PrintLast Go.Proofs.YtcbemeooeecboaaW.PrintMore Go.Proofs.Ytcbemeooeecboaa.PK
set_option linter.unusedVariables false
set_option linter.unusedSimpArgs false
set_option maxHeartbeats 4000000
set_option maxRecDepth 100000
theorem flt1 : flt 1 = 4607182418800017408 := by decide +kernel
theorem Turn (x y u v : Int) (hx : 0 ≤ x ∧ x < 1000000) (hu : 0 ≤ u ∧ u < 1000000) (w : World) : Calls Try.prog 22 #[.complex .f64 (flt x) (flt y), .complex .f64 (flt u) (flt v)] w fun e w' => e = .returned (.complex .f64 (flt (u - 1 - x)) (flt y)) ∧ Below w.heap.size w w' := by
  have f1 : floatBits .sub .f64 (flt u) 4607182418800017408 = some (flt (u - 1)) := by rw [← flt1]; exact sub_flt u 1 (by omega) (by decide) (by omega)
  have f2 : floatBits .sub .f64 (flt (u - 1)) (flt x) = some (flt (u - 1 - x)) := sub_flt _ _ (by omega) (by omega) (by omega)
  have r1 := fun w t => run_float_arith (P := Try.prog) w .sub t _ _ _ _ f1
  have r2 := fun w t => run_float_arith (P := Try.prog) w .sub t _ _ _ _ f2
  obtain ⟨a, ha⟩ : ∃ a, a = flt x := ⟨_, rfl⟩
  obtain ⟨b, hb⟩ : ∃ b, b = flt y := ⟨_, rfl⟩
  obtain ⟨c, hc⟩ : ∃ c, c = flt u := ⟨_, rfl⟩
  obtain ⟨d, hd⟩ : ∃ d, d = flt v := ⟨_, rfl⟩
  obtain ⟨g, hg⟩ : ∃ g, g = flt (u - 1) := ⟨_, rfl⟩
  obtain ⟨h, hh⟩ : ∃ h, h = flt (u - 1 - x) := ⟨_, rfl⟩
  rw [← ha] at r2
  rw [← hg, ← hh] at r2
  rw [← hc, ← hg] at r1
  rw [← ha, ← hb, ← hc, ← hd, ← hh]
  clear ha hb hc hd hg hh f1 f2 hx hu
  go_enter Try.func22, Try.ntmps22
  go_wp2_with fail
  go_ret
  exact ⟨rfl, Below.refl _ _⟩
theorem RefTurn (x y u v : Int) (hx : 0 ≤ x ∧ x < 1000000) (hu : 0 ≤ u ∧ u < 1000000) (w : World) : Calls Try.prog 23 #[.complex .f64 (flt x) (flt y), .complex .f64 (flt u) (flt v)] w fun e w' => e = .returned (.complex .f64 (flt (u - 1 - x)) (flt y)) ∧ Below w.heap.size w w' := by
  have f1 : floatBits .sub .f64 (flt u) 4607182418800017408 = some (flt (u - 1)) := by rw [← flt1]; exact sub_flt u 1 (by omega) (by decide) (by omega)
  have f2 : floatBits .sub .f64 (flt (u - 1)) (flt x) = some (flt (u - 1 - x)) := sub_flt _ _ (by omega) (by omega) (by omega)
  have r1 := fun w t => run_float_arith (P := Try.prog) w .sub t _ _ _ _ f1
  have r2 := fun w t => run_float_arith (P := Try.prog) w .sub t _ _ _ _ f2
  obtain ⟨a, ha⟩ : ∃ a, a = flt x := ⟨_, rfl⟩
  obtain ⟨b, hb⟩ : ∃ b, b = flt y := ⟨_, rfl⟩
  obtain ⟨c, hc⟩ : ∃ c, c = flt u := ⟨_, rfl⟩
  obtain ⟨d, hd⟩ : ∃ d, d = flt v := ⟨_, rfl⟩
  obtain ⟨g, hg⟩ : ∃ g, g = flt (u - 1) := ⟨_, rfl⟩
  obtain ⟨h, hh⟩ : ∃ h, h = flt (u - 1 - x) := ⟨_, rfl⟩
  rw [← ha] at r2
  rw [← hg, ← hh] at r2
  rw [← hc, ← hg] at r1
  rw [← ha, ← hb, ← hc, ← hd, ← hh]
  clear ha hb hc hd hg hh f1 f2 hx hu
  go_enter Try.func23, Try.ntmps23
  go_wp2_with fail
  go_ret
  exact ⟨rfl, Below.refl _ _⟩
end Go.Proofs.Ytcbemeooeecboaa.Rng

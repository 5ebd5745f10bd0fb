/- The sum of any bytes from any sum on, over two parts too: no condition but that the bytes are bytes. -/
import Derived.Test.YtigaemjkdgpceaaPMx1
namespace Go.Proofs.Ytigaemjkdgpceaa.Pure
open Go.RowKit Go.Proofs.YtigaemjkdgpceaaW.PrintWords Go.Proofs.YtigaemjkdgpceaaW.PrintLast Go.Proofs.YtigaemjkdgpceaaW.PrintMore Go.Proofs.Ytigaemjkdgpceaa Crc PK Ref PM
set_option linter.unusedVariables false
set_option linter.unusedSimpArgs false

theorem sums_okb {l : List Int} (h : ∀ x ∈ l, (Lit.int .u8 x).wf = true) : okb l = true := by
  rw [okb_iff]; intro x hx
  have := h x hx
  simp [Lit.wf, IntKind.min, IntKind.max, IntKind.bits, IntKind.signed] at this
  omega
theorem CrcSums : redresslaw16_CrcSums.Pure := by
  intro a0 l1 l2 w0 _ _ h1 _ _ h2
  simp [Lit.wf, IntKind.min, IntKind.max, IntKind.bits, IntKind.signed] at w0
  unfold redresslaw16_CrcSums.f
  rw [if_pos ⟨by omega, by omega, sums_okb h1, sums_okb h2⟩]
end Go.Proofs.Ytigaemjkdgpceaa.Pure

/- What is opened is what the document says: no condition but that the bytes are bytes. -/
import Derived.Test.YtigaemjkdgpceaaPPx1
namespace Go.Proofs.Ytigaemjkdgpceaa.Pure
open Go.RowKit Go.Proofs.YtigaemjkdgpceaaW.PrintWords Go.Proofs.YtigaemjkdgpceaaW.PrintLast Go.Proofs.YtigaemjkdgpceaaW.PrintMore Go.Proofs.Ytigaemjkdgpceaa Crc PK Ref PP
set_option linter.unusedVariables false
set_option linter.unusedSimpArgs false

theorem opens_okb {l : List Int} (h : ∀ x ∈ l, (Lit.int .u8 x).wf = true) : okb l = true := by
  rw [okb_iff]; intro x hx
  have := h x hx
  simp [Lit.wf, IntKind.min, IntKind.max, IntKind.bits, IntKind.signed] at this
  omega
theorem CrcOpens : redresslaw16_CrcOpens.Pure := by
  intro l1 _ _ h1
  unfold redresslaw16_CrcOpens.f
  rw [if_pos (opens_okb h1)]
end Go.Proofs.Ytigaemjkdgpceaa.Pure

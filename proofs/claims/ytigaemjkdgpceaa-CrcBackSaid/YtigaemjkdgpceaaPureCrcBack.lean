/- A frame is opened as what it was: no condition but that the bytes are bytes. -/
import Derived.Test.YtigaemjkdgpceaaPOx1
namespace Go.Proofs.Ytigaemjkdgpceaa.Pure
open Go.RowKit Go.Proofs.YtigaemjkdgpceaaW.PrintWords Go.Proofs.YtigaemjkdgpceaaW.PrintLast Go.Proofs.YtigaemjkdgpceaaW.PrintMore Go.Proofs.Ytigaemjkdgpceaa Crc PK Ref PO
set_option linter.unusedVariables false
set_option linter.unusedSimpArgs false

theorem back_okb {l : List Int} (h : ∀ x ∈ l, (Lit.int .u8 x).wf = true) : okb l = true := by
  rw [okb_iff]; intro x hx
  have := h x hx
  simp [Lit.wf, IntKind.min, IntKind.max, IntKind.bits, IntKind.signed] at this
  omega
theorem CrcBack : redresslaw16_CrcBack.Pure := by
  intro a0 l1 l2 w0 _ _ h1 _ _ h2
  simp [Lit.wf, IntKind.min, IntKind.max, IntKind.bits, IntKind.signed] at w0
  unfold redresslaw16_CrcBack.f
  rw [if_pos ⟨by omega, by omega, back_okb h1, back_okb h2⟩]
end Go.Proofs.Ytigaemjkdgpceaa.Pure

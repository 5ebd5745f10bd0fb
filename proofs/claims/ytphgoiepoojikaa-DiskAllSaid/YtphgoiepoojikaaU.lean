/- A row of operations that came in. -/
import Derived.Test.YtphgoiepoojikaaT
import Derived.Test.YtphgoiepoojikaaPKx0
namespace Go.Proofs.Ytphgoiepoojikaa
open Go.RowKit Go.Proofs.YtphgoiepoojikaaW.PrintWords Go.Proofs.YtphgoiepoojikaaW.PrintLast Go.Proofs.YtphgoiepoojikaaW.PrintMore Go.Proofs.Ytphgoiepoojikaa.PK
open Go.ChangeShapes
set_option linter.unusedVariables false
set_option linter.unusedSimpArgs false
namespace Came
variable {H : Type} {enc : TypeId × Value → H} {w : World} {base : Nat} {spare : Nat → Bool} {held : Bool}
theorem op_kd : ∀ n cs x, DataW.trod enc Try.prog w base spare held n 38 cs = some x → ∃ y : S38, k38.K w y cs := by
  intro n cs x h
  obtain ⟨y0, y1, y2, m, _, hl, h0, h1, h2⟩ := Go.Deep.trod_struct3 Try.underlying38 h
  have hl3 : cs.length = 3 := hl.trans (by kernel_rfl)
  have e1 : Try.prog.cellsOf 3 = 1 := by kernel_rfl
  have e2 : Try.prog.cellsOf 22 = 1 := by kernel_rfl
  match cs, hl3 with
  | [c0, c1, c2], _ =>
    simp only [e1, e2, List.drop_zero, List.drop_succ_cons, List.take_succ_cons, List.take_zero] at h0 h1 h2
    obtain ⟨n0, e0, _, _⟩ := DataW.trod_int Try.underlying3 h0
    obtain ⟨n1, e1', _, _⟩ := DataW.trod_int Try.underlying3 h1
    obtain ⟨a, cap, xs, e3, hc, _, hC⟩ := open_kd (Kd.int .u8) Try.underlying22 (by kernel_rfl) (int_kd Try.underlying5) h2
    injection e0 with e0; injection e1' with e1'; injection e3 with e3
    subst e0; subst e1'; subst e3
    exact ⟨⟨n0, n1, xs⟩, k38_mk w ⟨n0, n1, xs⟩ hc hC⟩
end Came
end Go.Proofs.Ytphgoiepoojikaa

/- What came in: tokens of the reference. -/
import Derived.Test.YtefiadocljnpjaaDoorVU
namespace Go.Proofs.YtefiadocljnpjaaDoor
open Go.Proofs.YtefiadocljnpjaaDoor.PK Go.RowKit Go.Proofs.YtefiadocljnpjaaDoorW.PrintWords Go.Proofs.YtefiadocljnpjaaDoorW.PrintLast Go.Proofs.YtefiadocljnpjaaDoorW.PrintMore
open Go.ChangeShapes
set_option linter.unusedVariables false
set_option linter.unusedSimpArgs false
namespace Came
section
variable {H : Type} {enc : TypeId × Value → H} {w : World} {base : Nat} {spare : Nat → Bool} {held : Bool}
set_option maxRecDepth 100000 in
theorem token_kdQ : ∀ n cs x, DataW.trod enc Tryd.prog w base spare held n 34 cs = some x → ∃ y : S34, k34.K w y cs ∧ y.f2.size ≤ maxLen := by
  intro n cs x h
  obtain ⟨y0, y1, y2, m, hl, h0, h1, h2⟩ := struct3 Tryd.underlying34 h
  have hl3 : cs.length = 3 := hl.trans (by kernel_rfl)
  have e1 : Tryd.prog.cellsOf 3 = 1 := by kernel_rfl
  have e2 : Tryd.prog.cellsOf 9 = 1 := by kernel_rfl
  match cs, hl3 with
  | [c0, c1, c2], _ =>
    simp only [e1, e2, List.drop_zero, List.drop_succ_cons, List.take_succ_cons, List.take_zero] at h0 h1 h2
    obtain ⟨n0, e0, _, _⟩ := DataW.trod_int Tryd.underlying3 h0
    obtain ⟨n1, e1', _, _⟩ := DataW.trod_int Tryd.underlying3 h1
    obtain ⟨s2, e2', _, hs⟩ := DataW.trod_string Tryd.underlying9 h2
    injection e0 with e0; injection e1' with e1'; injection e2' with e2'
    subst e0; subst e1'; subst e2'
    exact ⟨⟨n0, n1, s2⟩, k34_mk w ⟨n0, n1, s2⟩, hs⟩
theorem token_K {y : S34} {cs : List Value} (h : k34.K w y cs) : cs = [.int .i64 y.f0, .int .i64 y.f1, .string y.f2] := k34_open h
end
end Came
end Go.Proofs.YtefiadocljnpjaaDoor

/- Rows that came in, each number in its kind's bounds. -/
import Derived.Test.YtohenapbgencbaaT
import Derived.Test.YtohenapbgencbaaE
import Derived.ChangeSame
namespace Go.Proofs.Ytohenapbgencbaa
open Go.RowKit Go.Proofs.YtohenapbgencbaaW.PrintWords Go.Proofs.YtohenapbgencbaaW.PrintLast Go.Proofs.YtohenapbgencbaaW.PrintMore Go.Proofs.Ytohenapbgencbaa.PK
open Go.ChangeShapes
set_option linter.unusedVariables false
set_option linter.unusedSimpArgs false
namespace Came
section
variable {H : Type} {enc : TypeId × Value → H} {P : Program} {w : World} {base : Nat} {spare : Nat → Bool} {held : Bool}
/-- A slice whose elements are of a kind, and meet a condition. -/
theorem open_kdQ {α : Type} (d : Kd α) (Q : α → Prop) {t e : TypeId} (ht : P.underlying t = some (.slice e)) (hc : P.cellsOf e = d.sz)
    (hel : ∀ n cs x, DataW.trod enc P w base spare held n e cs = some x → ∃ y : α, d.K w y cs ∧ Q y) {fuel : Nat} {cs : List Value} {x : DataW H × List MemPlace} (h : DataW.trod enc P w base spare held fuel t cs = some x) :
    ∃ (a : Option Addr) (cap : Nat) (xs : List α), cs = [.slice a xs.length cap] ∧ xs.length ≤ cap ∧ cap ≤ maxLen ∧ d.C w a xs.length xs ∧ ∀ y ∈ xs, Q y := by
  rcases DataW.trod_slice ht h with ⟨rfl, _⟩ | ⟨a, len, cap, elems, rest, n, _, rfl, _, hb, hl, hm, hlen, hE, _, _⟩
  · exact ⟨none, 0, [], rfl, Nat.le_refl _, by decide, Kd.C_nil d w, (fun y hy => by cases hy)⟩
  · have key : ∀ m, m ≤ len → ∃ xs : List α, xs.length = m ∧ (∀ y ∈ xs, Q y) ∧ ∀ j p, xs[j]? = some p → ∃ c, c.length = d.sz ∧ d.K w p c ∧ ∀ i u, c[i]? = some u → w.cell? (a.add (j * d.sz + i)) = some u := by
      intro m
      induction m with
      | zero => exact fun _ => ⟨[], rfl, (fun y hy => by cases hy), (fun j p hj => by cases hj)⟩
      | succ m ih =>
        intro hm'
        obtain ⟨xs, hx, hq, hp⟩ := ih (by omega)
        have hi := hE m (by omega)
        rw [List.getElem?_eq_getElem (by omega), Option.bind_eq_some_iff] at hi
        obtain ⟨c, hc1, hc2⟩ := hi
        obtain ⟨y, hy, hyq⟩ := hel _ _ _ hc2
        obtain ⟨hc3, hc4⟩ := cells_get hc1
        refine ⟨xs ++ [y], by simp [hx], fun z hz => ?_, fun j p hj => ?_⟩
        · rcases List.mem_append.1 hz with h | h
          · exact hq z h
          · simp at h; rw [h]; exact hyq
        by_cases hjm : j < m
        · rw [List.getElem?_append_left (by omega)] at hj
          exact hp j p hj
        · have hjl : j < (xs ++ [y]).length := (List.getElem?_eq_some_iff.1 hj).1
          have hj2 : j = m := by rw [List.length_append, hx] at hjl; simp at hjl; omega
          subst hj2
          rw [List.getElem?_append_right (by omega), hx, Nat.sub_self] at hj
          cases hj
          refine ⟨c, by rw [hc3, hc], hy, fun i u hu => ?_⟩
          have := hc4 i u hu
          rwa [add_add, hc] at this
    obtain ⟨xs, hx, hq, hp⟩ := key len (Nat.le_refl _)
    subst hx
    refine ⟨some a, cap, xs, rfl, hl, hm, ⟨rfl, Nat.le_trans hl (by simpa [maxLen] using hm), fun _ => ⟨a, rfl, hp⟩⟩, hq⟩
end
section
variable {H : Type} {enc : TypeId × Value → H} {w : World} {base : Nat} {spare : Nat → Bool} {held : Bool}
theorem ask_kdQ : ∀ n cs x, DataW.trod enc Try.prog w base spare held n 32 cs = some x → ∃ y : S32, k32.K w y cs ∧ Deal.wfI y.f0 := by
  intro n cs x h
  obtain ⟨y0, y1, m, _, hl, h0, h1⟩ := Go.ChangeShapes.trod_struct2 Try.underlying32 h
  have hl3 : cs.length = 2 := hl.trans (by kernel_rfl)
  have e1 : Try.prog.cellsOf 3 = 1 := by kernel_rfl
  have e2 : Try.prog.cellsOf 9 = 1 := by kernel_rfl
  match cs, hl3 with
  | [c0, c1], _ =>
    simp only [e1, e2, List.drop_zero, List.drop_succ_cons, List.take_succ_cons, List.take_zero] at h0 h1
    obtain ⟨n0, e0, _, hw⟩ := DataW.trod_int Try.underlying3 h0
    obtain ⟨s1, e1', _⟩ := DataW.trod_string Try.underlying9 h1
    injection e0 with e0; injection e1' with e1'
    subst e0; subst e1'
    exact ⟨⟨n0, s1⟩, k32_mk w ⟨n0, s1⟩, by unfold Deal.wfI; simp [Lit.wf, IntKind.min, IntKind.max, IntKind.bits, IntKind.signed] at hw; omega⟩
end
end Came
end Go.Proofs.Ytohenapbgencbaa

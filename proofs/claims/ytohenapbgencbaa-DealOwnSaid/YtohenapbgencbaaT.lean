/- What came in: a slice of structs, opened as a row of kinds. -/
import Derived.Test.YtohenapbgencbaaH
import Derived.Deep.Strs
namespace Go.Proofs.Ytohenapbgencbaa
open Go.RowKit Go.Proofs.YtohenapbgencbaaW.PrintWords Go.Proofs.YtohenapbgencbaaW.PrintLast Go.Proofs.YtohenapbgencbaaW.PrintMore
open Go.ChangeShapes
set_option linter.unusedVariables false
set_option linter.unusedSimpArgs false
namespace Came

theorem add_add (ad : Addr) (lo j : Nat) : (ad.add lo).add j = ad.add (lo + j) := by
  simp only [Addr.add]
  by_cases h0 : lo = 0 <;> by_cases h3 : j = 0 <;> simp [h0, h3, Nat.add_assoc]
section
variable {H : Type} {enc : TypeId × Value → H} {P : Program} {w : World} {base : Nat} {spare : Nat → Bool} {held : Bool}
theorem cells_get {a : Addr} {n : Nat} {cs : List Value} (h : w.cells? base a n = some cs) : cs.length = n ∧ ∀ i u, cs[i]? = some u → w.cell? (a.add i) = some u := by
  unfold World.cells? at h
  split at h
  case isFalse => cases h
  have hl : cs.length = n := by simpa using mapM_some_length h
  refine ⟨hl, fun i u hu => ?_⟩
  have hi : i < n := by rw [← hl]; exact (List.getElem?_eq_some_iff.1 hu).1
  have := mapM_some_get h i i (by simp [hi])
  rw [this, hu]
/-- A slice whose elements are of a kind. -/
theorem open_kd {α : Type} (d : Kd α) {t e : TypeId} (ht : P.underlying t = some (.slice e)) (hc : P.cellsOf e = d.sz)
    (hel : ∀ n cs x, DataW.trod enc P w base spare held n e cs = some x → ∃ y : α, d.K w y cs) {fuel : Nat} {cs : List Value} {x : DataW H × List MemPlace} (h : DataW.trod enc P w base spare held fuel t cs = some x) :
    ∃ (a : Option Addr) (cap : Nat) (xs : List α), cs = [.slice a xs.length cap] ∧ xs.length ≤ cap ∧ cap ≤ maxLen ∧ d.C w a xs.length xs := by
  rcases DataW.trod_slice ht h with ⟨rfl, _⟩ | ⟨a, len, cap, elems, rest, n, _, rfl, _, hb, hl, hm, hlen, hE, _, _⟩
  · exact ⟨none, 0, [], rfl, Nat.le_refl _, by decide, Kd.C_nil d w⟩
  · have key : ∀ m, m ≤ len → ∃ xs : List α, xs.length = m ∧ ∀ j p, xs[j]? = some p → ∃ c, c.length = d.sz ∧ d.K w p c ∧ ∀ i u, c[i]? = some u → w.cell? (a.add (j * d.sz + i)) = some u := by
      intro m
      induction m with
      | zero => exact fun _ => ⟨[], rfl, fun j p hj => by cases hj⟩
      | succ m ih =>
        intro hm'
        obtain ⟨xs, hx, hp⟩ := ih (by omega)
        have hi := hE m (by omega)
        rw [List.getElem?_eq_getElem (by omega), Option.bind_eq_some_iff] at hi
        obtain ⟨c, hc1, hc2⟩ := hi
        obtain ⟨y, hy⟩ := hel _ _ _ hc2
        obtain ⟨hc3, hc4⟩ := cells_get hc1
        refine ⟨xs ++ [y], by simp [hx], fun j p hj => ?_⟩
        by_cases hjm : j < m
        · rw [List.getElem?_append_left (by omega)] at hj
          exact hp j p hj
        · have hjl : j < (xs ++ [y]).length := (List.getElem?_eq_some_iff.1 hj).1
          have hj2 : j = m := by rw [List.length_append, hx] at hjl; simp at hjl; omega
          subst hj2
          rw [List.getElem?_append_right (by omega), hx, Nat.sub_self] at hj
          cases hj
          refine ⟨c, by rw [hc3, hc], hy, fun i u hu => ?_⟩
          have := hc4 i u hu
          rwa [add_add, hc] at this
    obtain ⟨xs, hx, hp⟩ := key len (Nat.le_refl _)
    subst hx
    refine ⟨some a, cap, xs, rfl, hl, hm, rfl, Nat.le_trans hl (by simpa [maxLen] using hm), fun _ => ⟨a, rfl, hp⟩⟩
theorem int_kd {k : IntKind} {t : TypeId} (ht : P.underlying t = some (.int k)) : ∀ n cs x, DataW.trod enc P w base spare held n t cs = some x → ∃ y : Int, (Kd.int k).K w y cs := by
  intro n cs x h
  obtain ⟨y, rfl, _, _⟩ := DataW.trod_int ht h
  exact ⟨y, rfl⟩
end
end Came
end Go.Proofs.Ytohenapbgencbaa

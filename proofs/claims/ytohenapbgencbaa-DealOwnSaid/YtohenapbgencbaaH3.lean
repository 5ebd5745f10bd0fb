/- A dealer beside the document's; rows that are written over. -/
import Derived.Test.YtohenapbgencbaaH2
namespace Go.Proofs.Ytohenapbgencbaa
open Go.RowKit Go.Proofs.YtohenapbgencbaaW.PrintWords Go.Proofs.YtohenapbgencbaaW.PrintLast Go.Proofs.YtohenapbgencbaaW.PrintMore Go.Proofs.Ytohenapbgencbaa.PK
set_option linter.unusedVariables false
set_option linter.unusedSimpArgs false
set_option maxHeartbeats 4000000
namespace Deal

/-- A block that has n cells at least, which may be written. -/
def Blk (W : World) (g t n : Nat) : Prop := ∃ cs : Array Value, W.heap[g]? = some (.cells cs t (0, 0)) ∧ n ≤ cs.size
theorem Blk.cell {W : World} {g t n : Nat} (h : Blk W g t n) (j : Nat) (hj : j < n) : (∃ v, W.cell? ⟨g, j, none⟩ = some v) ∧ W.frozen? ⟨g, j, none⟩ = false := by
  obtain ⟨cs, h1, h2⟩ := h
  refine ⟨⟨cs[j]'(by omega), ?_⟩, blk_frozen h1 j⟩
  rw [cell_of_row _ _ _ _ _ _ h1]
  exact Array.getElem?_eq_getElem (by omega)
theorem Blk.set {W : World} {g t n : Nat} (h : Blk W g t n) (j : Nat) (v : Value) : Blk (W.setCell ⟨g, j, none⟩ v) g t n := by
  obtain ⟨cs, h1, h2⟩ := h
  exact ⟨_, heap_setCell_same W g j cs t v h1, by simpa using h2⟩
theorem Blk.move {W W' : World} {g t n : Nat} (h : Blk W g t n) (e : W'.heap[g]? = W.heap[g]?) : Blk W' g t n := by
  obtain ⟨cs, h1, h2⟩ := h
  exact ⟨cs, e.trans h1, h2⟩
theorem Blk.lt {W : World} {g t n : Nat} (h : Blk W g t n) : g < W.heap.size := by
  obtain ⟨cs, h1, _⟩ := h
  exact blk_lt h1
theorem Blk.any {W : World} {g t n : Nat} (h : Blk W g t n) (g2 j : Nat) (v : Value) : Blk (W.setCell ⟨g2, j, none⟩ v) g t n := by
  by_cases e : g = g2
  · subst e; exact h.set j v
  · exact h.move (heap_setCell_other W _ _ _ e)
theorem Blk.below {W W' : World} {g t n : Nat} (h : Blk W g t n) (hb : Below W.heap.size W W') : Blk W' g t n := h.move (hb.block _ h.lt)
/-- The block of a row of one's own. -/
theorem row_blk {α : Type} {d : Kd α} {e : Nat} {W : World} {base : Nat} {ok : Nat → Prop} {A : Option Addr} {n c : Nat} {xs : List α} (h : d.R e W base ok (.slice A n c) xs) :
    ∃ gx, 0 < xs.length → A = some ⟨gx, 0, none⟩ ∧ base ≤ gx ∧ ok gx ∧ Blk W gx e (xs.length * d.sz) := by
  obtain ⟨hok, inner, hown, hrep⟩ := h
  obtain ⟨hxl, hown2⟩ := hown
  rcases hown2 with ⟨he, h0⟩ | ⟨g, cp, cur, he, hbg, hheap, hnc, hcm, hcs, htk⟩
  · exact ⟨0, fun hp => by omega⟩
  · refine ⟨g, fun _ => ?_⟩
    injection he with ha _ hc
    refine ⟨ha, hbg, hok g (by rw [ha]; rfl), cur, hheap, ?_⟩
    rw [hcs]
    exact Nat.mul_le_mul_right _ hnc
/-- A dealer, and the document's in block q; what lies from m on is no part of them. -/
structure Both (w W : World) (m : Nat) (own : Nat → Prop) (g q : Nat) (s : DS) (RA : Option Addr) (Rc : Nat) (DA : Option Addr) (Dc : Nat) : Prop where
  now : Now w W own g s
  hq : W.heap[q]? = some (.cells #[.slice RA s.refuses.length Rc, .slice DA s.deeds.length Dc, .int .i64 s.asked] 30 (0, 0))
  row : Kd.R k53 53 W 0 (fun k => ¬ own k ∧ k ≠ q ∧ k < m) (.slice DA s.deeds.length Dc) s.deeds
  oq : ¬ own q
  lq : w.heap.size ≤ q
  om : ∀ k, own k → k < m
  qm : q < m
theorem Both.below {w W W' : World} {m : Nat} {own : Nat → Prop} {g q : Nat} {s : DS} {RA : Option Addr} {Rc : Nat} {DA : Option Addr} {Dc : Nat} (h : Both w W m own g q s RA Rc DA Dc) (hb : Below W.heap.size W W') : Both w W' m own g q s RA Rc DA Dc :=
  ⟨h.now.below hb, (hb.block _ (blk_lt h.hq)).trans h.hq, Kd.R_kept h.row (Kept.of_below hb (fun _ => False)) (fun _ _ hf => hf), h.oq, h.lq, h.om, h.qm⟩
theorem Both.only {w W W' : World} {m : Nat} {own P : Nat → Prop} {g q : Nat} {s : DS} {RA : Option Addr} {Rc : Nat} {DA : Option Addr} {Dc : Nat} (h : Both w W m own g q s RA Rc DA Dc) (ho : Only P W W') (hp : ∀ k, P k → m ≤ k) : Both w W' m own g q s RA Rc DA Dc :=
  ⟨h.now.only ho (fun k h1 h2 => by have := h.om k h1; have := hp k h2; omega) (fun k hk => by have := h.lq; have := h.qm; have := hp k hk; omega), (ho.keep _ (blk_lt h.hq) (fun hh => by have := h.qm; have := hp _ hh; omega)).trans h.hq,
   Kd.R_kept h.row ho.kept (fun k hk hh => by have := hp k hh; have := hk.2.2; omega), h.oq, h.lq, h.om, h.qm⟩
theorem Both.cells {w W : World} {m : Nat} {own : Nat → Prop} {g q : Nat} {s : DS} {RA : Option Addr} {Rc : Nat} {DA : Option Addr} {Dc : Nat} (h : Both w W m own g q s RA Rc DA Dc) :
    W.cell? ⟨q, 0, none⟩ = some (.slice RA s.refuses.length Rc) ∧ W.cell? ⟨q, 1, none⟩ = some (.slice DA s.deeds.length Dc) ∧ W.cell? ⟨q, 2, none⟩ = some (.int .i64 s.asked) ∧ (∀ j, W.frozen? ⟨q, j, none⟩ = false) :=
  ⟨by rw [cell_of_row _ _ _ _ _ _ h.hq]; rfl, by rw [cell_of_row _ _ _ _ _ _ h.hq]; rfl, by rw [cell_of_row _ _ _ _ _ _ h.hq]; rfl, fun j => blk_frozen h.hq j⟩
theorem Both.more {w W : World} {m m' : Nat} {own : Nat → Prop} {g q : Nat} {s : DS} {RA : Option Addr} {Rc : Nat} {DA : Option Addr} {Dc : Nat} (h : Both w W m own g q s RA Rc DA Dc) (hm : m ≤ m') : Both w W m' own g q s RA Rc DA Dc :=
  ⟨h.now, h.hq, Kd.R_mono h.row (fun k hk => ⟨hk.1, hk.2.1, Nat.lt_of_lt_of_le hk.2.2 hm⟩), h.oq, h.lq, fun k hk => Nat.lt_of_lt_of_le (h.om k hk) hm, Nat.lt_of_lt_of_le h.qm hm⟩
/-- Three cells of q are written. -/
theorem only_set3 (W : World) (q : Nat) (v0 v1 v2 : Value) : Only (fun k => k = q) W (((W.setCell ⟨q, 0, none⟩ v0).setCell ⟨q, 1, none⟩ v1).setCell ⟨q, 2, none⟩ v2) :=
  (((Only.refl (fun k => k = q) W).set rfl 0 v0).set rfl 1 v1).set rfl 2 v2
end Deal
end Go.Proofs.Ytohenapbgencbaa

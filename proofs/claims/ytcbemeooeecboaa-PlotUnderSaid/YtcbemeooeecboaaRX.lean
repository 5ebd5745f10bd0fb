/- plot.Box: its contract. -/
import Derived.Test.YtcbemeooeecboaaRT
namespace Go.Proofs.Ytcbemeooeecboaa.Rng
open Go Go.RowKit Go.Shelf Go.Proofs.Tree Go.Proofs.Flt Go.Proofs.YtcbemeooeecboaaW.PrintWords Go.Proofs.YtcbemeooeecboaaW.PrintLast Go.Proofs.YtcbemeooeecboaaW.PrintMore Go.Proofs.Ytcbemeooeecboaa.PK
set_option linter.unusedVariables false
set_option linter.unusedSimpArgs false
set_option maxHeartbeats 4000000
set_option maxRecDepth 100000
/-- How wide and how high the first j points are. -/
def boxX (l : List Int) (j : Nat) : Nat := (List.range j).foldl (fun m i => max m ((st l i).2 + 1)) 0
def boxY (l : List Int) (j : Nat) : Nat := (List.range j).foldl (fun m i => max m ((st l i).1.length + 1)) 0
attribute [local go_sem] max_two
theorem flt0 : flt 0 = 0 := by decide +kernel
theorem max2_flt (a b : Int) (ha : a.natAbs < 2 ^ 53) (hb : b.natAbs < 2 ^ 53) : Go.Builtin.max2 (.float .f64 (flt a)) (.float .f64 (flt b)) = (pure (.float .f64 (flt (max a b))) : Sem Value) := by
  unfold Go.Builtin.max2
  have h : FloatKind.f64.format.order (flt a) (flt b) = some (compare a b) := order_flt a b ha hb
  simp only [h]
  rcases Int.lt_trichotomy a b with h1 | h1 | h1
  · have e : compare a b = .lt := by show compareOfLessAndEq a b = _; unfold compareOfLessAndEq; rw [if_pos h1]
    rw [e, show max a b = b by omega]
  · subst h1
    have e : compare a a = .eq := by show compareOfLessAndEq a a = _; unfold compareOfLessAndEq; rw [if_neg (by omega), if_pos rfl]
    rw [e, show max a a = a by omega]
    simp
  · have e : compare a b = .gt := by show compareOfLessAndEq a b = _; unfold compareOfLessAndEq; rw [if_neg (by omega), if_neg (by omega)]
    rw [e, show max a b = a by omega]
theorem own_cell1 {W : World} {base : Nat} {e : TypeId} {V : Option Addr} {cv n : Nat} {xs : List Value} (h : W.ownsRow base e 1 (.slice V n cv) n xs) (k : Nat) (u : Value) (hk : xs[k]? = some u) : ∃ ad, V = some ad ∧ W.cell? (ad.add k) = some u := by
  have hlt : k < n := by have := (List.getElem?_eq_some_iff.1 hk).1; have := h.1; omega
  rcases h.2 with ⟨h0, _⟩ | ⟨g, cap, cur, ev, hb, hg, hn, _⟩
  · injection h0 with e1 e2 e3; omega
  · injection ev with e1 e2 e3
    subst e1
    exact ⟨_, rfl, h.cells (g := g) rfl k u hk⟩
theorem boxX_succ (l : List Int) (j : Nat) : boxX l (j + 1) = max (boxX l j) ((st l j).2 + 1) := by unfold boxX; rw [List.range_succ, List.foldl_append]; rfl
theorem boxY_succ (l : List Int) (j : Nat) : boxY l (j + 1) = max (boxY l j) ((st l j).1.length + 1) := by unfold boxY; rw [List.range_succ, List.foldl_append]; rfl
theorem boxX_le (l : List Int) (j : Nat) : boxX l j ≤ j := by
  induction j with
  | zero => exact Nat.le_refl _
  | succ j ih => rw [boxX_succ]; have := st_leaves l j; omega
theorem boxY_le (l : List Int) (j : Nat) : boxY l j ≤ j := by
  induction j with
  | zero => exact Nat.le_refl _
  | succ j ih => rw [boxY_succ]; have := st_len l j; omega
theorem many_le (l : List S44) : many l ≤ l.length := by unfold many; split <;> omega
theorem Box (A : Option Addr) (c : Nat) (l : List S44) (w : World) (hrow : Kd.C k44 w A l.length l) (hc : l.length ≤ c) (hl : l.length < 4398046511104) :
    Calls Try.prog 13 #[.slice A l.length c] w fun e w' => e = .returned (.complex .f64 (flt (boxX (kinds l) (many l) : Int)) (flt (boxY (kinds l) (many l) : Int))) ∧ Below w.heap.size w w' := by
  have HP := Aside0.mk (Points A c l w hrow hc hl)
  have HR := Aside0.mk (And.intro hrow (And.intro hc hl))
  have b0 : Value.complex .f64 0 0 = .complex .f64 (flt (boxX (kinds l) 0 : Int)) (flt (boxY (kinds l) 0 : Int)) := by rw [← flt0]; rfl
  have HB0 := Aside0.mk b0
  clear hrow hc hl b0
  go_enter Try.func13, Try.ntmps13
  go_wp2_with fail
  refine HP.out.mono ?_; rintro e w1 ⟨v, rfl, hown, hb⟩
  obtain ⟨N, hN⟩ : ∃ N, N = many l := ⟨_, rfl⟩
  obtain ⟨V, cv, ev⟩ : ∃ V cv, v = .slice V N cv := by
    rcases hown.2 with ⟨e1, e2⟩ | ⟨g, cap, cur, e1, _⟩
    · exact ⟨_, _, by rw [e1, hN, e2]⟩
    · exact ⟨_, _, by rw [e1, hN]⟩
  subst ev
  rw [← hN] at hown
  have HOW := Aside0.mk hown
  have HB := Aside0.mk hb
  have HN := Aside0.mk hN
  clear hown hb hN
  go_wp2_with fail
  go_loopg [3, 9] (N + 1) (fun kq v3 v9 W' => ∃ j : Nat, v9 = .int .i64 (j : Int) ∧ v3 = .complex .f64 (flt (boxX (kinds l) j : Int)) (flt (boxY (kinds l) j : Int)) ∧ Aside0 (kq + j = N + 1 ∧ j ≤ N) ∧ Aside0 (W' = w1))
  case atStart => exact ⟨0, rfl, HB0.out, ⟨by omega, Nat.zero_le _⟩, ⟨rfl⟩⟩
  case round =>
    obtain ⟨j, rfl, rfl, HJL, HW⟩ := hrel
    have hw := HW.out
    subst hw
    cases gk with
    | zero => exact absurd HJL.out.1 (by have := HJL.out.2; omega)
    | succ k1 =>
      have HNL : Aside0 (N < 4398046511104) := ⟨by have := many_le l; have := HR.out.2.2; have := HN.out; omega⟩
      by_cases hj : j < N
      · obtain ⟨ad, hV, x0⟩ := own_cell1 HOW.out j (ptV l j) (by rw [List.getElem?_map, List.getElem?_range hj]; rfl)
        subst hV
        have c1 : decide ((j : Int) < (N : Int)) = true := decide_eq_true (by omega)
        have c2 : decide (j < N) = true := decide_eq_true hj
        have q1 : ((0 : Int) ≤ (j : Int)) = True := eq_true (by omega)
        have q2 : ((j : Int) < (N : Int)) = True := eq_true (by omega)
        have q3 : (j < N) = True := eq_true hj
        have HJ2 := Aside0.mk hj
        have hsl := st_leaves (kinds l) j
        have hsl2 := st_len (kinds l) j
        have hbx := boxX_le (kinds l) j
        have hby := boxY_le (kinds l) j
        have hnl := HNL.out
        have f1 : floatBits .add .f64 (flt ((st (kinds l) j).2 : Int)) 4607182418800017408 = some (flt (((st (kinds l) j).2 + 1 : Nat) : Int)) := by
          rw [← flt1]; exact add_flt _ 1 (by omega) (by decide) (by omega)
        have f2 : floatBits .add .f64 (flt ((st (kinds l) j).1.length : Int)) 4607182418800017408 = some (flt (((st (kinds l) j).1.length + 1 : Nat) : Int)) := by
          rw [← flt1]; exact add_flt _ 1 (by omega) (by decide) (by omega)
        have m1 := max2_flt (boxX (kinds l) j : Int) (((st (kinds l) j).2 + 1 : Nat) : Int) (by omega) (by omega)
        have m2 := max2_flt (boxY (kinds l) j : Int) (((st (kinds l) j).1.length + 1 : Nat) : Int) (by omega) (by omega)
        rw [show max (boxX (kinds l) j : Int) (((st (kinds l) j).2 + 1 : Nat) : Int) = (boxX (kinds l) (j + 1) : Int) by rw [boxX_succ]; omega] at m1
        rw [show max (boxY (kinds l) j : Int) (((st (kinds l) j).1.length + 1 : Nat) : Int) = (boxY (kinds l) (j + 1) : Int) by rw [boxY_succ]; omega] at m2
        have r1 := fun w t => run_float_arith (P := Try.prog) w .add t _ _ _ _ f1
        have r2 := fun w t => run_float_arith (P := Try.prog) w .add t _ _ _ _ f2
        have hpt : ptV l j = .complex .f64 (flt ((st (kinds l) j).2 : Int)) (flt ((st (kinds l) j).1.length : Int)) := rfl
        have HWJ : Aside0 (wrap64 ((j : Int) + 1) = ((j + 1 : Nat) : Int)) := ⟨by unfold wrap64; omega⟩
        rw [hpt] at x0
        clear hsl hsl2 hbx hby hnl hj f1 f2 hpt
        generalize flt (((st (kinds l) j).2 + 1 : Nat) : Int) = px1 at *
        generalize flt (((st (kinds l) j).1.length + 1 : Nat) : Int) = py1 at *
        generalize flt ((st (kinds l) j).2 : Int) = px at *
        generalize flt ((st (kinds l) j).1.length : Int) = py at *
        obtain ⟨nx, hnx⟩ : ∃ nx, nx = flt (boxX (kinds l) (j + 1) : Int) := ⟨_, rfl⟩
        obtain ⟨ny, hny⟩ : ∃ ny, ny = flt (boxY (kinds l) (j + 1) : Int) := ⟨_, rfl⟩
        rw [← hnx] at m1
        rw [← hny] at m2
        have HNX := Aside0.mk (And.intro hnx hny)
        clear hnx hny
        generalize flt (boxX (kinds l) j : Int) = bx at *
        generalize flt (boxY (kinds l) j : Int) = bY at *
        go_wp2_with fail
        go_roundg k1
        · exact ⟨j + 1, congrArg (Value.int .i64) HWJ.out, by rw [HNX.out.1, HNX.out.2], ⟨by have := HJL.out; omega, HJ2.out⟩, ⟨rfl⟩⟩
        · exact Nat.lt_succ_self _
      · have c1 : decide ((j : Int) < (N : Int)) = false := decide_eq_false (by omega)
        have c2 : decide (j < N) = false := decide_eq_false hj
        have HE := Aside0.mk (show j = N by have := HJL.out; omega)
        clear hj
        go_wp2_with fail
        go_ret
        have e : j = many l := HE.out.trans HN.out
        refine ⟨?_, HB.out⟩
        rw [← e]
        rfl
end Go.Proofs.Ytcbemeooeecboaa.Rng

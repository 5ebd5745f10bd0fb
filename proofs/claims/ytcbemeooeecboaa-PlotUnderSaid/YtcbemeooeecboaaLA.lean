/- The law PlotPoints, walked. -/
import Derived.Test.YtcbemeooeecboaaSA
import Derived.Test.YtcbemeooeecboaaPKx5
import Derived.Deep.QuietTactic
namespace Go.Proofs.Ytcbemeooeecboaa.Rng
open Go Go.RowKit Go.Proofs.Tree Go.Proofs.Flt Go.Proofs.YtcbemeooeecboaaW.PrintWords Go.Proofs.YtcbemeooeecboaaW.PrintLast Go.Proofs.YtcbemeooeecboaaW.PrintMore Go.Proofs.Ytcbemeooeecboaa.PK
set_option linter.unusedVariables false
set_option linter.unusedSimpArgs false
set_option maxHeartbeats 4000000
set_option maxRecDepth 100000
theorem Few (A : Option Addr) (c : Nat) (l : List S44) (w : World) (hrow : Kd.C k44 w A l.length l) (hc : l.length ≤ c) : Calls Try.prog 9 #[.slice A l.length c] w fun e w' => e = .returned (.bool (decide (l.length ≤ 210))) ∧ Drawn0 w w' :=
  redresslaw09_few.calls A c l _ w hrow hc (by unfold redresslaw09_few.f; congr 1; rw [decide_eq_decide]; omega)
/-- Points, its slice in one form. -/
theorem Pts (A : Option Addr) (c : Nat) (l : List S44) (w : World) (hrow : Kd.C k44 w A l.length l) (hc : l.length ≤ c) (hl : l.length < 4398046511104) :
    Calls Try.prog 11 #[.slice A l.length c] w fun e w' => ∃ V cv, e = .returned (.slice V (many l) cv) ∧ w'.ownsRow w.heap.size 27 1 (.slice V (many l) cv) (many l) ((List.range (many l)).map (ptV l)) ∧ Below w.heap.size w w' := by
  refine (Points A c l w hrow hc hl).mono ?_
  rintro e w' ⟨v, rfl, h1, h2⟩
  obtain ⟨V, cv, rfl⟩ := own_slice h1
  exact ⟨V, cv, rfl, h1, h2⟩
/-- A point's numbers, as floats of whole numbers that are small. -/
theorem pt_flt (l : List S44) (k : Nat) : ptV l k = .complex .f64 (flt ((st (kinds l) k).2 : Int)) (flt ((st (kinds l) k).1.length : Int)) := rfl
theorem fe_self (n : Nat) (h : n < 4398046511104) : (FloatKind.f64.format.order (flt (n : Int)) (flt (n : Int)) == some .eq) = true := by
  have := fe_flt (n : Int) (n : Int) (by omega) (by omega)
  rw [decide_eq_true rfl] at this
  exact this
theorem PointsLaw (A : Option Addr) (c : Nat) (l : List S44) (w : World) (hrow : Kd.C k44 w A l.length l) (hc : l.length ≤ c) :
    Calls Try.prog 3 #[.slice A l.length c] w fun e w' => e = .returned (.bool true) ∧ Below w.heap.size w w' := by
  have HF := Aside0.mk (Few A c l w hrow hc)
  by_cases hf : l.length ≤ 210
  · rw [decide_eq_true hf] at HF
    have hl : l.length < 4398046511104 := by omega
    have HP := Aside0.mk (fun W (h : Below w.heap.size w W) => Pts A c l W (Kd.C_below hrow h) hc hl)
    have HR := Aside0.mk (fun W (h : Below w.heap.size w W) => RefPts A c l W (Kd.C_below hrow h) hc hl)
    have HX := Aside0.mk (fun W (h : Below w.heap.size w W) => Box A c l W (Kd.C_below hrow h) hc hl)
    have HY := Aside0.mk (fun W (h : Below w.heap.size w W) => RefBox A c l W (Kd.C_below hrow h) hc hl)
    obtain ⟨N, hN⟩ : ∃ N, N = many l := ⟨_, rfl⟩
    rw [← hN] at HP HR HX
    have hNl : N ≤ 210 := by have := many_le l; omega
    have HN := Aside0.mk hNl
    have hbx := boxX_le (kinds l) N
    have hby := boxY_le (kinds l) N
    have x1 := fe_self (boxX (kinds l) N) (by omega)
    have x2 := fe_self (boxY (kinds l) N) (by omega)
    have hrb := boxes l
    rw [← hN] at hrb
    rw [hrb] at HY
    clear hrb hbx hby hrow hc hf hl hNl hN
    obtain ⟨bx, hbx⟩ : ∃ bx, bx = flt (boxX (kinds l) N : Int) := ⟨_, rfl⟩
    obtain ⟨bY, hbY⟩ : ∃ bY, bY = flt (boxY (kinds l) N : Int) := ⟨_, rfl⟩
    rw [← hbx, ← hbY] at HX HY
    rw [← hbx] at x1
    rw [← hbY] at x2
    clear hbx hbY
    go_enter Try.func3, Try.ntmps3
    go_wp2_with fail
    refine HF.out.mono ?_; rintro e w1 ⟨rfl, hd⟩
    have HB1 := Aside0.mk hd.below
    clear hd
    go_wp2_with fail
    refine (HP.out _ HB1.out).mono ?_; rintro e w2 ⟨VP, cp, rfl, hop, hb⟩
    have HB2 := Aside0.mk (HB1.out.trans (hb.mono HB1.out.size))
    have HO2 := Aside0.mk hop
    clear hb hop
    go_wp2_with fail
    refine (HR.out _ HB2.out).mono ?_; rintro e w3 ⟨VR, cr, rfl, hor, hb⟩
    have HB3 := Aside0.mk (HB2.out.trans (hb.mono HB2.out.size))
    have HO3 := Aside0.mk (And.intro (pw_own_below HO2.out hb) hor)
    clear hb hor HO2
    go_wp2_with fail
    refine (HX.out _ HB3.out).mono ?_; rintro e w4 ⟨rfl, hb⟩
    have HB4 := Aside0.mk (HB3.out.trans (hb.mono HB3.out.size))
    have HO4 := Aside0.mk (And.intro (pw_own_below HO3.out.1 hb) (pw_own_below HO3.out.2 hb))
    clear hb HO3
    go_wp2_with fail
    refine (HY.out _ HB4.out).mono ?_; rintro e w5 ⟨rfl, hb⟩
    have HB5 := Aside0.mk (HB4.out.trans (hb.mono HB4.out.size))
    have HO5 := Aside0.mk (And.intro (pw_own_below HO4.out.1 hb) (pw_own_below HO4.out.2 hb))
    clear hb HO4
    go_wp2_with fail
    clear x1 x2
    go_loopg [28] (N + 1) (fun kq v28 W' => ∃ j : Nat, v28 = .int .i64 (j : Int) ∧ Aside0 (kq + j = N + 1 ∧ j ≤ N) ∧ Aside0 (Below w5.heap.size w5 W'))
    case atStart => exact ⟨0, rfl, ⟨by omega, Nat.zero_le _⟩, ⟨Below.refl _ _⟩⟩
    case round =>
      obtain ⟨j, rfl, HJ, HB⟩ := hrel
      cases gk with
      | zero => exact absurd HJ.out.1 (by have := HJ.out.2; omega)
      | succ k1 =>
        by_cases hj : j < N
        · obtain ⟨ad, hV, x0⟩ := own_cell1 (pw_own_below HO5.out.1 HB.out) j (ptV l j) (by rw [List.getElem?_map, List.getElem?_range hj]; rfl)
          subst hV
          obtain ⟨ad2, hV2, x1⟩ := own_cell1 (pw_own_below HO5.out.2 HB.out) j (ptV l j) (by rw [List.getElem?_map, List.getElem?_range hj]; rfl)
          subst hV2
          have c1 : decide ((j : Int) < (N : Int)) = true := decide_eq_true (by omega)
          have c2 : decide (j < N) = true := decide_eq_true hj
          have q1 : ((0 : Int) ≤ (j : Int)) = True := eq_true (by omega)
          have q2 : ((j : Int) < (N : Int)) = True := eq_true (by omega)
          have q3 : (j < N) = True := eq_true hj
          have hnl := HN.out
          have y1 := fe_self (st (kinds l) j).2 (by have := st_leaves (kinds l) j; omega)
          have y2 := fe_self (st (kinds l) j).1.length (by have := st_len (kinds l) j; omega)
          have HJ2 := Aside0.mk hj
          have HW2 : Aside0 (wrap64 ((j : Int) + 1) = ((j + 1 : Nat) : Int)) := ⟨wadd1 j (by omega)⟩
          rw [pt_flt] at x0 x1
          clear hj hnl
          generalize flt ((st (kinds l) j).2 : Int) = px at *
          generalize flt ((st (kinds l) j).1.length : Int) = py at *
          go_upto_region 9 with fail
          go_quiet (fail)
          have HB2 := Aside0.mk (pw_below_drewN HB.out nq)
          go_wp2_with fail
          go_roundg k1
          · exact ⟨j + 1, congrArg (Value.int .i64) HW2.out, ⟨by have := HJ.out; omega, HJ2.out⟩, HB2⟩
          · exact Nat.lt_succ_self _
        · have c1 : decide ((j : Int) < (N : Int)) = false := decide_eq_false (by omega)
          have c2 : decide (j < N) = false := decide_eq_false hj
          clear hj
          go_wp2_with fail
          refine (alive _).mono ?_; rintro e w6 ⟨rfl, hb⟩
          have HB6 := Aside0.mk (((HB5.out.trans (HB.out.mono HB5.out.size))).trans (hb.mono (HB5.out.trans (HB.out.mono HB5.out.size)).size))
          clear hb
          go_wp2_with fail
          go_ret
          exact ⟨rfl, HB6.out⟩
  · rw [decide_eq_false hf] at HF
    clear hrow hc hf
    go_enter Try.func3, Try.ntmps3
    go_wp2_with fail
    refine HF.out.mono ?_; rintro e w1 ⟨rfl, hd⟩
    have HB1 := Aside0.mk hd.below
    clear hd
    go_wp2_with fail
    refine (alive _).mono ?_; rintro e w2 ⟨rfl, hb⟩
    have HB2 := Aside0.mk (HB1.out.trans (hb.mono HB1.out.size))
    clear hb
    go_wp2_with fail
    go_ret
    exact ⟨rfl, HB2.out⟩
end Go.Proofs.Ytcbemeooeecboaa.Rng

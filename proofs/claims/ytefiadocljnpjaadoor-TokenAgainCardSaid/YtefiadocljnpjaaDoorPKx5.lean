-- Of this seat's own make: written by a program of this session's repo (wip/inject.py) over the kit's printer, with some functions given by hand.
import Derived.Test.YtefiadocljnpjaaDoorPKx0
import Derived.Test.YtefiadocljnpjaaDoorPKx3
import Derived.Test.YtefiadocljnpjaaDoorPKx4
namespace Go.Proofs.YtefiadocljnpjaaDoor.PK
open Go.RowKit Go.Proofs.YtefiadocljnpjaaDoorW.PrintWords Go.Proofs.YtefiadocljnpjaaDoorW.PrintLast Go.Proofs.YtefiadocljnpjaaDoorW.PrintMore
attribute [local go_sem] max2_int min2_int max_two min_two max_three min_three max_four min_four   -- for this text's walks alone
set_option linter.unusedVariables false
set_option linter.unusedSimpArgs false

/-! ### redressref05_Lex: function 23 -/
mutual
def redressref05_Lex.l0 : Nat → ByteArray → List (S34) → Int → Option ((List (S34)) × Int × Int)
  | 0, _, _, _ => none
  | k + 1, x0, x5, x6 => if x6 < (x0.size : Int) then (redressref05_Lex.l1 k x0 x5 x6 x6) else (some (x5, (x0.size : Int), 0))
def redressref05_Lex.j2 : Nat → ByteArray → List (S34) → Int → Int → Option ((List (S34)) × Int × Int)
  | 0, _, _, _, _ => none
  | k + 1, x0, x5, x6, x7 => if (wrap64 (x7 - x6)) > 8 then (some (([] : List (S34)), x6, 51)) else (if x7 > x6 then (if 0 ≤ x6 then (if x6 ≤ x7 then (if x7 ≤ (x0.size : Int) then (if x5.length < 4398046511104 then (redressref05_Lex.l0 k x0 (x5 ++ [(⟨10, x6, x0.extract (x6 : Int).toNat (x7 : Int).toNat⟩ : S34)]) x7) else (none)) else (none)) else (none)) else (none)) else (if 0 ≤ x6 then (if x6 < (x0.size : Int) then (if (bt x0 x6) = 32 then (redressref05_Lex.j3 k x0 x5 x6 false) else ((redressref05_kind.f k (bt x0 x6)).bind fun t109 => (redressref05_Lex.j3 k x0 x5 x6 (t109 == 0)))) else (none)) else (none)))
def redressref05_Lex.j3 : Nat → ByteArray → List (S34) → Int → Bool → Option ((List (S34)) × Int × Int)
  | 0, _, _, _, _ => none
  | k + 1, x0, x5, x6, x56 => if x56 = true then (some (([] : List (S34)), x6, 50)) else (if 0 ≤ x6 then (if x6 < (x0.size : Int) then (if (bt x0 x6) = 32 then (redressref05_Lex.l0 k x0 x5 (wrap64 (x6 + 1))) else ((redressref05_kind.f k (bt x0 x6)).bind fun t110 => (if x5.length < 4398046511104 then (redressref05_Lex.l0 k x0 (x5 ++ [(⟨t110, x6, (⟨#[]⟩ : ByteArray)⟩ : S34)]) (wrap64 (x6 + 1))) else (none)))) else (none)) else (none))
def redressref05_Lex.l1 : Nat → ByteArray → List (S34) → Int → Int → Option ((List (S34)) × Int × Int)
  | 0, _, _, _, _ => none
  | k + 1, x0, x5, x6, x7 => if x7 < (x0.size : Int) then (if 0 ≤ x7 then ((redressref05_letter.f (bt x0 x7)).bind fun t105 => (if t105 = true then (redressref05_Lex.l1 k x0 x5 x6 (wrap64 (x7 + 1))) else (redressref05_Lex.j2 k x0 x5 x6 x7))) else (none)) else (redressref05_Lex.j2 k x0 x5 x6 x7)
end
def redressref05_Lex.f (k : Nat) (a0 : ByteArray) : Option ((List (S34)) × Int × Int) := if (a0.size : Int) > 1000 then (some (([] : List (S34)), 1000, 52)) else (redressref05_Lex.l0 k a0 ([] : List (S34)) 0)
theorem redressref05_Lex.mono_l : ∀ k, (∀ y0 y1 y2, LeO (redressref05_Lex.l0 k y0 y1 y2) (redressref05_Lex.l0 (k + 1) y0 y1 y2)) ∧ (∀ y0 y1 y2 y3, LeO (redressref05_Lex.j2 k y0 y1 y2 y3) (redressref05_Lex.j2 (k + 1) y0 y1 y2 y3)) ∧ (∀ y0 y1 y2 y3, LeO (redressref05_Lex.j3 k y0 y1 y2 y3) (redressref05_Lex.j3 (k + 1) y0 y1 y2 y3)) ∧ (∀ y0 y1 y2 y3, LeO (redressref05_Lex.l1 k y0 y1 y2 y3) (redressref05_Lex.l1 (k + 1) y0 y1 y2 y3))
  | 0 => ⟨fun _ _ _ r h => by simp [redressref05_Lex.l0] at h, fun _ _ _ _ r h => by simp [redressref05_Lex.j2] at h, fun _ _ _ _ r h => by simp [redressref05_Lex.j3] at h, fun _ _ _ _ r h => by simp [redressref05_Lex.l1] at h⟩
  | k + 1 => by
    obtain ⟨ih0, ih1, ih2, ih3⟩ := redressref05_Lex.mono_l k
    refine ⟨?_, ?_, ?_, ?_⟩
    · intro y0 y1 y2
      unfold redressref05_Lex.l0
      repeat' first
      | (with_reducible exact ih0 _ _ _)
      | (with_reducible exact ih1 _ _ _ _)
      | (with_reducible exact ih2 _ _ _ _)
      | (with_reducible exact ih3 _ _ _ _)
      | (with_reducible exact redressref05_kind.mono _ _)
      | (with_reducible exact LeO.refl _)
      | (with_reducible exact LeO.none _)
      | (with_reducible refine LeO.ite ?_ ?_)
      | (with_reducible refine LeO.bind ?_ (fun _ => ?_))
      | exact ih0 _ _ _
      | exact ih1 _ _ _ _
      | exact ih2 _ _ _ _
      | exact ih3 _ _ _ _
      | exact redressref05_kind.mono _ _
      | exact LeO.none _
      | refine LeO.ite ?_ ?_
      | refine LeO.bind ?_ (fun _ => ?_)
    · intro y0 y1 y2 y3
      unfold redressref05_Lex.j2
      repeat' first
      | (with_reducible exact ih0 _ _ _)
      | (with_reducible exact ih1 _ _ _ _)
      | (with_reducible exact ih2 _ _ _ _)
      | (with_reducible exact ih3 _ _ _ _)
      | (with_reducible exact redressref05_kind.mono _ _)
      | (with_reducible exact LeO.refl _)
      | (with_reducible exact LeO.none _)
      | (with_reducible refine LeO.ite ?_ ?_)
      | (with_reducible refine LeO.bind ?_ (fun _ => ?_))
      | exact ih0 _ _ _
      | exact ih1 _ _ _ _
      | exact ih2 _ _ _ _
      | exact ih3 _ _ _ _
      | exact redressref05_kind.mono _ _
      | exact LeO.none _
      | refine LeO.ite ?_ ?_
      | refine LeO.bind ?_ (fun _ => ?_)
    · intro y0 y1 y2 y3
      unfold redressref05_Lex.j3
      repeat' first
      | (with_reducible exact ih0 _ _ _)
      | (with_reducible exact ih1 _ _ _ _)
      | (with_reducible exact ih2 _ _ _ _)
      | (with_reducible exact ih3 _ _ _ _)
      | (with_reducible exact redressref05_kind.mono _ _)
      | (with_reducible exact LeO.refl _)
      | (with_reducible exact LeO.none _)
      | (with_reducible refine LeO.ite ?_ ?_)
      | (with_reducible refine LeO.bind ?_ (fun _ => ?_))
      | exact ih0 _ _ _
      | exact ih1 _ _ _ _
      | exact ih2 _ _ _ _
      | exact ih3 _ _ _ _
      | exact redressref05_kind.mono _ _
      | exact LeO.none _
      | refine LeO.ite ?_ ?_
      | refine LeO.bind ?_ (fun _ => ?_)
    · intro y0 y1 y2 y3
      unfold redressref05_Lex.l1
      repeat' first
      | (with_reducible exact ih0 _ _ _)
      | (with_reducible exact ih1 _ _ _ _)
      | (with_reducible exact ih2 _ _ _ _)
      | (with_reducible exact ih3 _ _ _ _)
      | (with_reducible exact redressref05_kind.mono _ _)
      | (with_reducible exact LeO.refl _)
      | (with_reducible exact LeO.none _)
      | (with_reducible refine LeO.ite ?_ ?_)
      | (with_reducible refine LeO.bind ?_ (fun _ => ?_))
      | exact ih0 _ _ _
      | exact ih1 _ _ _ _
      | exact ih2 _ _ _ _
      | exact ih3 _ _ _ _
      | exact redressref05_kind.mono _ _
      | exact LeO.none _
      | refine LeO.ite ?_ ?_
      | refine LeO.bind ?_ (fun _ => ?_)
theorem redressref05_Lex.mono : ∀ a0 k, LeO (redressref05_Lex.f k a0) (redressref05_Lex.f (k + 1) a0) := by
  intro a0 k
  obtain ⟨ih0, ih1, ih2, ih3⟩ := redressref05_Lex.mono_l k
  unfold redressref05_Lex.f
  repeat' first
      | (with_reducible exact ih0 _ _ _)
      | (with_reducible exact ih1 _ _ _ _)
      | (with_reducible exact ih2 _ _ _ _)
      | (with_reducible exact ih3 _ _ _ _)
      | (with_reducible exact redressref05_kind.mono _ _)
      | (with_reducible exact LeO.refl _)
      | (with_reducible exact LeO.none _)
      | (with_reducible refine LeO.ite ?_ ?_)
      | (with_reducible refine LeO.bind ?_ (fun _ => ?_))
      | exact ih0 _ _ _
      | exact ih1 _ _ _ _
      | exact ih2 _ _ _ _
      | exact ih3 _ _ _ _
      | exact redressref05_kind.mono _ _
      | exact LeO.none _
      | refine LeO.ite ?_ ?_
      | refine LeO.bind ?_ (fun _ => ?_)
set_option maxHeartbeats 8000000 in
set_option maxRecDepth 100000 in
theorem redressref05_Lex.calls (k : Nat) (a0 : ByteArray) (r1 : List (S34)) (r2 : Int) (r3 : Int) (w : World) (h : redressref05_Lex.f k a0 = some (r1, r2, r3)) :
    Calls Tryd.prog 23 #[.string a0] w fun e w' => ∃ v0_ : Value, e = .returned (.tuple #[v0_, .int .i64 r2, .int .i64 r3]) ∧ Kd.R k34 34 w' w.heap.size (fun _ => True) v0_ r1 ∧ Below w.heap.size w w' := by
  have hu34 := Tryd.underlying34
  have HB := Aside0.mk (Below.refl w.heap.size w)
  have H : (if (a0.size : Int) > 1000 then (some (([] : List (S34)), 1000, 52)) else (redressref05_Lex.l0 k a0 ([] : List (S34)) 0)) = some (r1, r2, r3) := h
  clear h
  by_cases c2 : (a0.size : Int) > 1000
  · rw [if_pos c2] at H
    have c2b0 : decide (1000 < (a0.size : Int)) = true := decide_eq_true c2
    have c2b1 : decide (1000 < a0.size) = true := decide_eq_true (by omega)
    clear c2
    simp only [Option.some.injEq, Prod.mk.injEq] at H
    obtain ⟨rfl, rfl, rfl⟩ := H
    go_enter Tryd.func23, Tryd.ntmps23
    go_wp2
    go_ret3
    exact ⟨_, by first | rfl | (simp [errW_none, errW_some] <;> rfl) | (simp [*, errW_none, errW_some] <;> rfl), by first | exact Kd.R_nil _ _ _ _ _ | exact Kd.N_nil _ _ _ _ _ | exact Kd.V_nil _ _ _ _ _ | exact Kd.Q_nil _ _ _ _ _ | exact Kd.S_nil _ _ _ _ _, by repeat (first | (with_reducible first | exact HB.out | apply below_alloc | apply pw_below_drewN | apply below_drew1) | exact HB.out)⟩
  · rw [if_neg c2] at H
    have c2b0 : decide (1000 < (a0.size : Int)) = false := decide_eq_false c2
    have c2b1 : decide (1000 < a0.size) = false := decide_eq_false (by omega)
    clear c2
    have H' := Aside0.mk H
    clear H
    go_enter Tryd.func23, Tryd.ntmps23
    go_wp2
    go_loopg [5, 6] k (fun kq v5 v6 w' => ∃ (x5_1 : List (S34)) (x6_1 : Int), v6 = .int .i64 x6_1 ∧ Aside0 (redressref05_Lex.l0 kq a0 x5_1 x6_1 = some (r1, r2, r3)) ∧ Aside0 (kq ≤ k) ∧ Aside0 (Kd.R k34 34 w' w.heap.size (fun _ => True) v5 x5_1) ∧ Aside0 (Below w.heap.size w w'))
    case atStart => exact ⟨(([] : List (S34))), (0), (by first | rfl | (simp; done) | (simp [*]; done)), H', ⟨Nat.le_refl _⟩, ⟨by first | exact Kd.R_nil _ _ _ _ _ | exact Kd.N_nil _ _ _ _ _ | exact Kd.V_nil _ _ _ _ _ | exact Kd.Q_nil _ _ _ _ _ | exact Kd.S_nil _ _ _ _ _⟩, ⟨by repeat (first | (with_reducible first | exact HB.out | apply below_alloc | apply pw_below_drewN | apply below_drew1) | exact HB.out)⟩⟩
    case round =>
      clear H'
      try clear c2
      try clear c2b0
      try clear c2b1
      try clear p2
      obtain ⟨x5_1, x6_1, rfl, HA, HK1, HO_5, HB⟩ := hrel
      cases gk with
      | zero => exact absurd HA.out (by simp [redressref05_Lex.l0])
      | succ k1 =>
        have H := HA.out
        clear HA
        simp only [redressref05_Lex.l0] at H
        by_cases c3 : x6_1 < (a0.size : Int)
        · rw [if_pos c3] at H
          have c3b0 : decide (x6_1 < (a0.size : Int)) = true := decide_eq_true c3
          clear c3
          have HC4 := Aside0.mk H
          clear H
          go_upto_block 2 with (fail)
          go_cut [7] (fun v7 wc => ∃ (kq : Nat) (x7_3 : Int), v7 = .int .i64 x7_3 ∧ Aside0 (redressref05_Lex.j2 kq a0 x5_1 x6_1 x7_3 = some (r1, r2, r3)) ∧ Aside0 (kq ≤ k1) ∧ Aside0 (Kd.R k34 34 wc w.heap.size (fun _ => True) u5 x5_1) ∧ Aside0 (Below w.heap.size w wc))
          case first =>
            have H := HC4.out
            clear HC4
            have H' := Aside0.mk H
            clear H
            go_wp2
            go_loopg [7] k1 (fun kq v7 w' => ∃ (x7_2 : Int), v7 = .int .i64 x7_2 ∧ Aside0 (redressref05_Lex.l1 kq a0 x5_1 x6_1 x7_2 = some (r1, r2, r3)) ∧ Aside0 (kq ≤ k1) ∧ Aside0 (Kd.R k34 34 w' w.heap.size (fun _ => True) u5 x5_1) ∧ Aside0 (Below w.heap.size w w'))
            case atStart => exact ⟨(x6_1), (by first | rfl | (simp; done) | (simp [*]; done)), H', ⟨Nat.le_refl _⟩, ⟨by (with_reducible repeat (first | apply Kd.R_alloc | apply Kd.R_drewN | apply Kd.R_drew)); exact HO_5.out⟩, ⟨by repeat (first | (with_reducible first | exact HB.out | apply below_alloc | apply pw_below_drewN | apply below_drew1) | exact HB.out)⟩⟩
            case round =>
              clear H'
              try clear c2
              try clear c2b0
              try clear c2b1
              try clear p2
              try clear c3
              try clear c3b0
              try clear p2
              obtain ⟨x7_2, rfl, HA, HK2, HO_5, HB⟩ := hrel
              cases gk with
              | zero => exact absurd HA.out (by simp [redressref05_Lex.l1])
              | succ k2 =>
                have H := HA.out
                clear HA
                simp only [redressref05_Lex.l1] at H
                by_cases c5 : x7_2 < (a0.size : Int)
                · rw [if_pos c5] at H
                  have c5b0 : decide (x7_2 < (a0.size : Int)) = true := decide_eq_true c5
                  clear c5
                  (first | rw [c5b0] | (simp only [i64_w, i32_w]; rw [c5b0]) | skip)
                  by_cases c6 : 0 ≤ x7_2
                  · rw [if_pos c6] at H
                    have c6b0 : decide (0 ≤ x7_2) = true := decide_eq_true c6
                    clear c6
                    replace H := Option.bind_eq_some_iff.mp H
                    obtain ⟨t105, A80, H⟩ := H
                    replace H : (if t105 = true then (redressref05_Lex.l1 k2 a0 x5_1 x6_1 (wrap64 (x7_2 + 1))) else (redressref05_Lex.j2 k2 a0 x5_1 x6_1 x7_2)) = some (r1, r2, r3) := H
                    have A8 := Aside0.mk A80
                    clear A80
                    by_cases c9 : t105 = true
                    · subst c9
                      have H1 : (redressref05_Lex.l1 k2 a0 x5_1 x6_1 (wrap64 (x7_2 + 1))) = some (r1, r2, r3) := by rw [if_pos rfl] at H; exact H
                      clear H
                      have H := H1
                      clear H1
                      have H' := Aside0.mk H
                      clear H
                      have p7 : 0 ≤ (x7_2 : Int) := of_decide_eq_true (by first | (with_reducible assumption) | assumption)
                      have q7 : x7_2 < (a0.size : Int) := of_decide_eq_true (by first | (with_reducible assumption) | assumption)
                      have hx7 := bt_at a0 x7_2
                      replace p7 := eq_true p7
                      replace q7 := eq_true q7
                      go_wp2_with (first | (go_at_call 64; (with_reducible refine (redressref05_letter.calls (bt a0 x7_2) true _ A8.out).mono ?_); rintro e w' ⟨rfl, ⟨nd, rfl⟩⟩))
                      go_roundg k2
                      case measure => have := HK1.out; have := HK2.out; omega
                      case rel => exact ⟨(wrap64 (x7_2 + 1)), (by first | rfl | (simp; done) | (simp [*]; done)), H', ⟨by have := HK1.out; have := HK2.out; omega⟩, ⟨by (with_reducible repeat (first | apply Kd.R_alloc | apply Kd.R_drewN | apply Kd.R_drew)); exact HO_5.out⟩, ⟨by repeat (first | (with_reducible first | exact HB.out | apply below_alloc | apply pw_below_drewN | apply below_drew1) | exact HB.out)⟩⟩
                    · replace c9 := Bool.eq_false_iff.mpr c9
                      subst c9
                      have H1 : (redressref05_Lex.j2 k2 a0 x5_1 x6_1 x7_2) = some (r1, r2, r3) := by rw [if_neg (show ¬ (false = true) by decide)] at H; exact H
                      clear H
                      have H := H1
                      clear H1
                      have H' := Aside0.mk H
                      clear H
                      have p7 : 0 ≤ (x7_2 : Int) := of_decide_eq_true (by first | (with_reducible assumption) | assumption)
                      have q7 : x7_2 < (a0.size : Int) := of_decide_eq_true (by first | (with_reducible assumption) | assumption)
                      have hx7 := bt_at a0 x7_2
                      replace p7 := eq_true p7
                      replace q7 := eq_true q7
                      go_wp2_with (first | (go_at_call 64; (with_reducible refine (redressref05_letter.calls (bt a0 x7_2) false _ A8.out).mono ?_); rintro e w' ⟨rfl, ⟨nd, rfl⟩⟩))
                      go_meet
                      case rel => exact ⟨_, (x7_2), (by first | rfl | (simp; done) | (simp [*]; done)), H', ⟨by have := HK1.out; have := HK2.out; first | omega | exact Nat.le_refl _⟩, ⟨by (with_reducible repeat (first | apply Kd.R_alloc | apply Kd.R_drewN | apply Kd.R_drew)); exact HO_5.out⟩, ⟨by repeat (first | (with_reducible first | exact HB.out | apply below_alloc | apply pw_below_drewN | apply below_drew1) | exact HB.out)⟩⟩
                  · rw [if_neg c6] at H
                    exact absurd H (by simp)
                · rw [if_neg c5] at H
                  have c5b0 : decide (x7_2 < (a0.size : Int)) = false := decide_eq_false c5
                  clear c5
                  (first | rw [c5b0] | (simp only [i64_w, i32_w]; rw [c5b0]) | skip)
                  have H' := Aside0.mk H
                  clear H
                  go_wp2
                  go_meet
                  case rel => exact ⟨_, (x7_2), (by first | rfl | (simp; done) | (simp [*]; done)), H', ⟨by have := HK1.out; have := HK2.out; first | omega | exact Nat.le_refl _⟩, ⟨by (with_reducible repeat (first | apply Kd.R_alloc | apply Kd.R_drewN | apply Kd.R_drew)); exact HO_5.out⟩, ⟨by repeat (first | (with_reducible first | exact HB.out | apply below_alloc | apply pw_below_drewN | apply below_drew1) | exact HB.out)⟩⟩
          case rest =>
            clear HC4
            try clear c2
            try clear c2b0
            try clear c2b1
            try clear p2
            try clear c3
            try clear c3b0
            try clear c5
            try clear c5b0
            try clear c6
            try clear c6b0
            try clear p6
            try clear p7
            try clear q7
            try clear hx7
            try clear c9
            try clear p2
            try clear p7
            try clear q7
            obtain ⟨kq, x7_3, rfl, HA, HJ3, HO_5, HB⟩ := hcut
            cases kq with
            | zero => exact absurd HA.out (by simp [redressref05_Lex.j2])
            | succ kj3 =>
              have H := HA.out
              clear HA
              simp only [redressref05_Lex.j2] at H
              by_cases c10 : (wrap64 (x7_3 - x6_1)) > 8
              · rw [if_pos c10] at H
                have c10b0 : decide (8 < (wrap64 (x7_3 - x6_1))) = true := decide_eq_true c10
                clear c10
                simp only [Option.some.injEq, Prod.mk.injEq] at H
                obtain ⟨rfl, rfl, rfl⟩ := H
                go_wp2
                go_ret3
                exact ⟨_, by first | rfl | (simp [errW_none, errW_some] <;> rfl) | (simp [*, errW_none, errW_some] <;> rfl), by first | exact Kd.R_nil _ _ _ _ _ | exact Kd.N_nil _ _ _ _ _ | exact Kd.V_nil _ _ _ _ _ | exact Kd.Q_nil _ _ _ _ _ | exact Kd.S_nil _ _ _ _ _, by repeat (first | (with_reducible first | exact HB.out | apply below_alloc | apply pw_below_drewN | apply below_drew1) | exact HB.out)⟩
              · rw [if_neg c10] at H
                have c10b0 : decide (8 < (wrap64 (x7_3 - x6_1))) = false := decide_eq_false c10
                clear c10
                by_cases c11 : x7_3 > x6_1
                · rw [if_pos c11] at H
                  have c11b0 : decide (x6_1 < x7_3) = true := decide_eq_true c11
                  clear c11
                  by_cases c12 : 0 ≤ x6_1
                  · rw [if_pos c12] at H
                    have c12b0 := eq_true c12
                    have c12b1 : decide (0 ≤ x6_1) = true := decide_eq_true c12
                    clear c12
                    by_cases c13 : x6_1 ≤ x7_3
                    · rw [if_pos c13] at H
                      have c13b0 := eq_true c13
                      have c13b1 : decide (x6_1 ≤ x7_3) = true := decide_eq_true c13
                      clear c13
                      by_cases c14 : x7_3 ≤ (a0.size : Int)
                      · rw [if_pos c14] at H
                        have c14b0 := eq_true c14
                        have c14b1 : decide (x7_3 ≤ (a0.size : Int)) = true := decide_eq_true c14
                        clear c14
                        by_cases c15 : x5_1.length < 4398046511104
                        · rw [if_pos c15] at H
                          have LMc15 := Aside0.mk c15
                          clear c15
                          obtain ⟨y106, hy106⟩ : ∃ y_ : List (S34), y_ = (x5_1 ++ [(⟨10, x6_1, a0.extract (x6_1 : Int).toNat (x7_3 : Int).toNat⟩ : S34)]) := ⟨_, rfl⟩
                          replace H : (redressref05_Lex.l0 kj3 a0 y106 x7_3) = some (r1, r2, r3) := by first | (rw [hy106]; with_reducible exact H) | (have H2_ := (Option.bind_some _ _).symm.trans H; rw [hy106]; with_reducible exact H2_) | (have H2_ := (Option.bind_some _ _).symm.trans H; with_reducible exact H2_) | with_reducible exact H | (rw [hy106]; exact H) | exact H
                          have Ny106 := Aside0.mk hy106
                          clear hy106
                          have H' := Aside0.mk H
                          clear H
                          go_wp2_with (first | ((with_reducible refine gate_builtin (b := .append) (xs := #[.tmp 36, .tmp 43]) rfl ?_); at_builtin; refine Kd.R_append k34 (w0 := w) w.heap.size rfl (.tmp 36) (.tmp 43) 27 34 (.agg #[(.int .i64 0), (.int .i64 0), (.string ⟨#[]⟩)]) 32 rfl Tryd.underlying27 info34 rfl (by decide) (by omega) u5 x5_1 (⟨10, x6_1, a0.extract (x6_1 : Int).toNat (x7_3 : Int).toNat⟩ : S34) [.int .i64 10, .int .i64 x6_1, .string (a0.extract (x6_1 : Int).toNat (x7_3 : Int).toNat)] (fun _ => True) (fun _ => False) rfl rfl ?aP (fun _ hk => hk.elim) ?aF ?aO ?aB ?aS ?aL ?_; (case aP => exact k34_mkM _ _ _ (⟨10, x6_1, a0.extract (x6_1 : Int).toNat (x7_3 : Int).toNat⟩ : S34)); (case aB => exact (by repeat (first | (with_reducible first | exact HB.out | apply below_alloc | apply pw_below_drewN | apply below_drew1) | exact HB.out))); (case aF => exact (fun _ _ => trivial)); (case aO => exact (by (with_reducible repeat (first | apply Kd.R_alloc | apply Kd.R_drewN | apply Kd.R_drew)); exact HO_5.out)); (case aS => exact (below_size (by repeat (first | (with_reducible first | exact HB.out | apply below_alloc | apply pw_below_drewN | apply below_drew1) | exact HB.out)))); (case aL => have := LMc15.out; omega); intro v107 w16 ho hb hg hat; rw [← Ny106.out] at ho; have n0_ := Aside0.mk (hb); have n1_ := Aside0.mk (ho); clear HB; clear HO_5; have HB := n0_; have HO108 := n1_; clear n0_ n1_; clear ho hb hg hat))
                          go_roundg kj3
                          case measure => have := HK1.out; have := HJ3.out; omega
                          case rel => exact ⟨(y106), (x7_3), (by first | rfl | (simp; done) | (simp [*]; done)), H', ⟨by have := HK1.out; have := HJ3.out; omega⟩, ⟨by (with_reducible repeat (first | apply Kd.R_alloc | apply Kd.R_drewN | apply Kd.R_drew)); exact HO108.out⟩, ⟨by repeat (first | (with_reducible first | exact HB.out | apply below_alloc | apply pw_below_drewN | apply below_drew1) | exact HB.out)⟩⟩
                        · rw [if_neg c15] at H
                          exact absurd H (by simp)
                      · rw [if_neg c14] at H
                        exact absurd H (by simp)
                    · rw [if_neg c13] at H
                      exact absurd H (by simp)
                  · rw [if_neg c12] at H
                    exact absurd H (by simp)
                · rw [if_neg c11] at H
                  have c11b0 : decide (x6_1 < x7_3) = false := decide_eq_false c11
                  clear c11
                  have HC17 := Aside0.mk H
                  clear H
                  go_upto_region 14 with (fail)
                  go_cut [56] (fun v56 wc => ∃ (kq : Nat) (x56_16 : Bool), v56 = .bool x56_16 ∧ Aside0 (redressref05_Lex.j3 kq a0 x5_1 x6_1 x56_16 = some (r1, r2, r3)) ∧ Aside0 (kq ≤ kj3) ∧ Aside0 (Kd.R k34 34 wc w.heap.size (fun _ => True) u5 x5_1) ∧ Aside0 (Below w.heap.size w wc))
                  case first =>
                    have H := HC17.out
                    clear HC17
                    by_cases c18 : 0 ≤ x6_1
                    · rw [if_pos c18] at H
                      have c18b0 : decide (0 ≤ x6_1) = true := decide_eq_true c18
                      clear c18
                      (first | rw [c18b0] | (simp only [i64_w, i32_w]; rw [c18b0]) | skip)
                      by_cases c19 : x6_1 < (a0.size : Int)
                      · rw [if_pos c19] at H
                        have c19b0 : decide (x6_1 < (a0.size : Int)) = true := decide_eq_true c19
                        clear c19
                        by_cases c21 : (bt a0 x6_1) = 32
                        · rw [if_pos c21] at H
                          have c21b0 : ((bt a0 x6_1) == 32) = true := beq_iff_eq.mpr c21
                          have c21b1 : ((bt a0 x6_1) != 32) = false := bne_eq_false_iff_eq.mpr c21
                          clear c21
                          have H' := Aside0.mk H
                          clear H
                          have p20 : 0 ≤ (x6_1 : Int) := of_decide_eq_true (by first | (with_reducible assumption) | assumption)
                          have q20 : x6_1 < (a0.size : Int) := of_decide_eq_true (by first | (with_reducible assumption) | assumption)
                          have hx20 := bt_at a0 x6_1
                          replace p20 := eq_true p20
                          replace q20 := eq_true q20
                          go_wp2
                          go_meet
                          case rel => exact ⟨_, (false), (by first | rfl | (simp; done) | (simp [*]; done)), H', ⟨by have := HK1.out; have := HJ3.out; first | omega | exact Nat.le_refl _⟩, ⟨by (with_reducible repeat (first | apply Kd.R_alloc | apply Kd.R_drewN | apply Kd.R_drew)); exact HO_5.out⟩, ⟨by repeat (first | (with_reducible first | exact HB.out | apply below_alloc | apply pw_below_drewN | apply below_drew1) | exact HB.out)⟩⟩
                        · rw [if_neg c21] at H
                          have c21b0 : ((bt a0 x6_1) == 32) = false := beq_eq_false_iff_ne.mpr c21
                          have c21b1 : ((bt a0 x6_1) != 32) = true := bne_iff_ne.mpr c21
                          replace H := Option.bind_eq_some_iff.mp H
                          obtain ⟨t109, A230, H⟩ := H
                          replace H : (redressref05_Lex.j3 kj3 a0 x5_1 x6_1 (t109 == 0)) = some (r1, r2, r3) := H
                          have A23 := Aside0.mk A230
                          clear A230
                          have H' := Aside0.mk H
                          clear H
                          have p20 : 0 ≤ (x6_1 : Int) := of_decide_eq_true (by first | (with_reducible assumption) | assumption)
                          have q20 : x6_1 < (a0.size : Int) := of_decide_eq_true (by first | (with_reducible assumption) | assumption)
                          have hx20 := bt_at a0 x6_1
                          replace p20 := eq_true p20
                          replace q20 := eq_true q20
                          have p22 : 0 ≤ (x6_1 : Int) := of_decide_eq_true (by first | (with_reducible assumption) | assumption)
                          have q22 : x6_1 < (a0.size : Int) := of_decide_eq_true (by first | (with_reducible assumption) | assumption)
                          have hx22 := bt_at a0 x6_1
                          replace p22 := eq_true p22
                          replace q22 := eq_true q22
                          go_wp2_with (first | (go_at_call 65; (with_reducible refine (redressref05_kind.calls kj3 (bt a0 x6_1) t109 _ A23.out).mono ?_); rintro e w' ⟨rfl, ⟨nd, rfl⟩⟩))
                          go_meet
                          case rel => exact ⟨_, ((t109 == 0)), (by first | rfl | (simp; done) | (simp [*]; done)), H', ⟨by have := HK1.out; have := HJ3.out; first | omega | exact Nat.le_refl _⟩, ⟨by (with_reducible repeat (first | apply Kd.R_alloc | apply Kd.R_drewN | apply Kd.R_drew)); exact HO_5.out⟩, ⟨by repeat (first | (with_reducible first | exact HB.out | apply below_alloc | apply pw_below_drewN | apply below_drew1) | exact HB.out)⟩⟩
                      · rw [if_neg c19] at H
                        exact absurd H (by simp)
                    · rw [if_neg c18] at H
                      exact absurd H (by simp)
                  case rest =>
                    clear HC17
                    try clear c1
                    try clear c2
                    try clear c2b0
                    try clear c2b1
                    try clear p2
                    try clear q2
                    try clear hx2
                    try clear c3
                    try clear c3b0
                    try clear c5
                    try clear c5b0
                    try clear c6
                    try clear c6b0
                    try clear p6
                    try clear p7
                    try clear q7
                    try clear hx7
                    try clear c9
                    try clear c10
                    try clear c10b0
                    try clear c11
                    try clear c11b0
                    try clear c12
                    try clear c12b0
                    try clear c12b1
                    try clear c13
                    try clear c13b0
                    try clear c13b1
                    try clear c14
                    try clear c14b0
                    try clear c14b1
                    try clear c15
                    try clear c18
                    try clear c18b0
                    try clear c19
                    try clear c19b0
                    try clear p20
                    try clear q20
                    try clear hx20
                    try clear c21
                    try clear c21b0
                    try clear c21b1
                    try clear p22
                    try clear q22
                    try clear hx22
                    try clear c23
                    try clear p2
                    try clear p20
                    try clear p22
                    try clear p6
                    try clear p7
                    try clear q20
                    try clear q22
                    try clear q7
                    obtain ⟨kq, x56_16, rfl, HA, HJ16, HO_5, HB⟩ := hcut
                    cases kq with
                    | zero => exact absurd HA.out (by simp [redressref05_Lex.j3])
                    | succ kj16 =>
                      have H := HA.out
                      clear HA
                      simp only [redressref05_Lex.j3] at H
                      by_cases c24 : x56_16 = true
                      · subst c24
                        have H1 : (some (([] : List (S34)), x6_1, 50)) = some (r1, r2, r3) := by rw [if_pos rfl] at H; exact H
                        clear H
                        have H := H1
                        clear H1
                        simp only [Option.some.injEq, Prod.mk.injEq] at H
                        obtain ⟨rfl, rfl, rfl⟩ := H
                        go_wp2
                        go_ret3
                        exact ⟨_, by first | rfl | (simp [errW_none, errW_some] <;> rfl) | (simp [*, errW_none, errW_some] <;> rfl), by first | exact Kd.R_nil _ _ _ _ _ | exact Kd.N_nil _ _ _ _ _ | exact Kd.V_nil _ _ _ _ _ | exact Kd.Q_nil _ _ _ _ _ | exact Kd.S_nil _ _ _ _ _, by repeat (first | (with_reducible first | exact HB.out | apply below_alloc | apply pw_below_drewN | apply below_drew1) | exact HB.out)⟩
                      · replace c24 := Bool.eq_false_iff.mpr c24
                        subst c24
                        have H1 : (if 0 ≤ x6_1 then (if x6_1 < (a0.size : Int) then (if (bt a0 x6_1) = 32 then (redressref05_Lex.l0 kj16 a0 x5_1 (wrap64 (x6_1 + 1))) else ((redressref05_kind.f kj16 (bt a0 x6_1)).bind fun t110 => (if x5_1.length < 4398046511104 then (redressref05_Lex.l0 kj16 a0 (x5_1 ++ [(⟨t110, x6_1, (⟨#[]⟩ : ByteArray)⟩ : S34)]) (wrap64 (x6_1 + 1))) else (none)))) else (none)) else (none)) = some (r1, r2, r3) := by rw [if_neg (show ¬ (false = true) by decide)] at H; exact H
                        clear H
                        have H := H1
                        clear H1
                        by_cases c25 : 0 ≤ x6_1
                        · rw [if_pos c25] at H
                          have c25b0 : decide (0 ≤ x6_1) = true := decide_eq_true c25
                          clear c25
                          by_cases c26 : x6_1 < (a0.size : Int)
                          · rw [if_pos c26] at H
                            have c26b0 : decide (x6_1 < (a0.size : Int)) = true := decide_eq_true c26
                            clear c26
                            by_cases c28 : (bt a0 x6_1) = 32
                            · rw [if_pos c28] at H
                              have c28b0 : ((bt a0 x6_1) == 32) = true := beq_iff_eq.mpr c28
                              have c28b1 : ((bt a0 x6_1) != 32) = false := bne_eq_false_iff_eq.mpr c28
                              clear c28
                              have H' := Aside0.mk H
                              clear H
                              have p27 : 0 ≤ (x6_1 : Int) := of_decide_eq_true (by first | (with_reducible assumption) | assumption)
                              have q27 : x6_1 < (a0.size : Int) := of_decide_eq_true (by first | (with_reducible assumption) | assumption)
                              have hx27 := bt_at a0 x6_1
                              replace p27 := eq_true p27
                              replace q27 := eq_true q27
                              go_wp2
                              go_roundg kj16
                              case measure => have := HK1.out; have := HJ3.out; have := HJ16.out; omega
                              case rel => exact ⟨(x5_1), (wrap64 (x6_1 + 1)), (by first | rfl | (simp; done) | (simp [*]; done)), H', ⟨by have := HK1.out; have := HJ3.out; have := HJ16.out; omega⟩, ⟨by (with_reducible repeat (first | apply Kd.R_alloc | apply Kd.R_drewN | apply Kd.R_drew)); exact HO_5.out⟩, ⟨by repeat (first | (with_reducible first | exact HB.out | apply below_alloc | apply pw_below_drewN | apply below_drew1) | exact HB.out)⟩⟩
                            · rw [if_neg c28] at H
                              have c28b0 : ((bt a0 x6_1) == 32) = false := beq_eq_false_iff_ne.mpr c28
                              have c28b1 : ((bt a0 x6_1) != 32) = true := bne_iff_ne.mpr c28
                              replace H := Option.bind_eq_some_iff.mp H
                              obtain ⟨t110, A300, H⟩ := H
                              replace H : (if x5_1.length < 4398046511104 then (redressref05_Lex.l0 kj16 a0 (x5_1 ++ [(⟨t110, x6_1, (⟨#[]⟩ : ByteArray)⟩ : S34)]) (wrap64 (x6_1 + 1))) else (none)) = some (r1, r2, r3) := H
                              have A30 := Aside0.mk A300
                              clear A300
                              by_cases c31 : x5_1.length < 4398046511104
                              · rw [if_pos c31] at H
                                have LMc31 := Aside0.mk c31
                                clear c31
                                obtain ⟨y111, hy111⟩ : ∃ y_ : List (S34), y_ = (x5_1 ++ [(⟨t110, x6_1, (⟨#[]⟩ : ByteArray)⟩ : S34)]) := ⟨_, rfl⟩
                                replace H : (redressref05_Lex.l0 kj16 a0 y111 (wrap64 (x6_1 + 1))) = some (r1, r2, r3) := by first | (rw [hy111]; with_reducible exact H) | (have H2_ := (Option.bind_some _ _).symm.trans H; rw [hy111]; with_reducible exact H2_) | (have H2_ := (Option.bind_some _ _).symm.trans H; with_reducible exact H2_) | with_reducible exact H | (rw [hy111]; exact H) | exact H
                                have Ny111 := Aside0.mk hy111
                                clear hy111
                                have H' := Aside0.mk H
                                clear H
                                have p27 : 0 ≤ (x6_1 : Int) := of_decide_eq_true (by first | (with_reducible assumption) | assumption)
                                have q27 : x6_1 < (a0.size : Int) := of_decide_eq_true (by first | (with_reducible assumption) | assumption)
                                have hx27 := bt_at a0 x6_1
                                replace p27 := eq_true p27
                                replace q27 := eq_true q27
                                have p29 : 0 ≤ (x6_1 : Int) := of_decide_eq_true (by first | (with_reducible assumption) | assumption)
                                have q29 : x6_1 < (a0.size : Int) := of_decide_eq_true (by first | (with_reducible assumption) | assumption)
                                have hx29 := bt_at a0 x6_1
                                replace p29 := eq_true p29
                                replace q29 := eq_true q29
                                go_wp2_with (first | ((with_reducible refine gate_callee (f := 65) rfl ?_); refine goesL_ (some 66) rfl rfl Tryd.func65 (by kernel_rfl) rfl #[.int .u8 (bt a0 x6_1)] rfl (by (try simp only [List.map_toArray, List.map_cons, List.map_nil]); first | done | rfl | (simp only [List.length_drop, List.length_take]; rfl)) ?_; (with_reducible refine (redressref05_kind.calls kj16 (bt a0 x6_1) t110 _ A30.out).mono ?_); rintro e w' ⟨rfl, ⟨nd, rfl⟩⟩; refine ⟨_, rfl, ?_⟩) | ((with_reducible refine gate_builtin (b := .append) (xs := #[.tmp 62, .tmp 69]) rfl ?_); at_builtin; refine Kd.R_append k34 (w0 := w) w.heap.size rfl (.tmp 62) (.tmp 69) 27 34 (.agg #[(.int .i64 0), (.int .i64 0), (.string ⟨#[]⟩)]) 32 rfl Tryd.underlying27 info34 rfl (by decide) (by omega) u5 x5_1 (⟨t110, x6_1, (⟨#[]⟩ : ByteArray)⟩ : S34) [.int .i64 t110, .int .i64 x6_1, .string (⟨#[]⟩ : ByteArray)] (fun _ => True) (fun _ => False) rfl rfl ?aP (fun _ hk => hk.elim) ?aF ?aO ?aB ?aS ?aL ?_; (case aP => exact k34_mkM _ _ _ (⟨t110, x6_1, (⟨#[]⟩ : ByteArray)⟩ : S34)); (case aB => exact (by repeat (first | (with_reducible first | exact HB.out | apply below_alloc | apply pw_below_drewN | apply below_drew1) | exact HB.out))); (case aF => exact (fun _ _ => trivial)); (case aO => exact (by (with_reducible repeat (first | apply Kd.R_alloc | apply Kd.R_drewN | apply Kd.R_drew)); exact HO_5.out)); (case aS => exact (below_size (by repeat (first | (with_reducible first | exact HB.out | apply below_alloc | apply pw_below_drewN | apply below_drew1) | exact HB.out)))); (case aL => have := LMc31.out; omega); intro v112 w32 ho hb hg hat; rw [← Ny111.out] at ho; have n0_ := Aside0.mk (hb); have n1_ := Aside0.mk (ho); clear HB; clear HO_5; have HB := n0_; have HO113 := n1_; clear n0_ n1_; clear ho hb hg hat))
                                go_roundg kj16
                                case measure => have := HK1.out; have := HJ3.out; have := HJ16.out; omega
                                case rel => exact ⟨(y111), (wrap64 (x6_1 + 1)), (by first | rfl | (simp; done) | (simp [*]; done)), H', ⟨by have := HK1.out; have := HJ3.out; have := HJ16.out; omega⟩, ⟨by (with_reducible repeat (first | apply Kd.R_alloc | apply Kd.R_drewN | apply Kd.R_drew)); exact HO113.out⟩, ⟨by repeat (first | (with_reducible first | exact HB.out | apply below_alloc | apply pw_below_drewN | apply below_drew1) | exact HB.out)⟩⟩
                              · rw [if_neg c31] at H
                                exact absurd H (by simp)
                          · rw [if_neg c26] at H
                            exact absurd H (by simp)
                        · rw [if_neg c25] at H
                          exact absurd H (by simp)
        · rw [if_neg c3] at H
          have c3b0 : decide (x6_1 < (a0.size : Int)) = false := decide_eq_false c3
          clear c3
          simp only [Option.some.injEq, Prod.mk.injEq] at H
          obtain ⟨rfl, rfl, rfl⟩ := H
          go_wp2
          go_ret3
          exact ⟨_, by first | rfl | (simp [errW_none, errW_some] <;> rfl) | (simp [*, errW_none, errW_some] <;> rfl), by (with_reducible repeat (first | apply Kd.R_alloc | apply Kd.R_drewN | apply Kd.R_drew)); exact HO_5.out, by repeat (first | (with_reducible first | exact HB.out | apply below_alloc | apply pw_below_drewN | apply below_drew1) | exact HB.out)⟩

end Go.Proofs.YtefiadocljnpjaaDoor.PK

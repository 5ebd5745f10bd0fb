-- Of this seat's own make: written by a program of this session's repo (wip/inject.py) over the kit's printer, with some functions given by hand.
import Derived.Test.YtefiadocljnpjaaDoorPKx0
namespace Go.Proofs.YtefiadocljnpjaaDoor.PK
open Go.RowKit Go.Proofs.YtefiadocljnpjaaDoorW.PrintWords Go.Proofs.YtefiadocljnpjaaDoorW.PrintLast Go.Proofs.YtefiadocljnpjaaDoorW.PrintMore
attribute [local go_sem] max2_int min2_int max_two min_two max_three min_three max_four min_four   -- for this text's walks alone
set_option linter.unusedVariables false
set_option linter.unusedSimpArgs false

/-! ### redressref05_kind: function 65 -/
def redressref05_kind.l0 : Nat → Int → ByteArray → Int → Option (Int)
  | 0, _, _, _ => none
  | k + 1, x0, x3, x4 => if x4 < (x3.size : Int) then (if 0 ≤ x4 then (if (bt x3 x4) = x0 then (some (wrap64 (x4 + 1))) else (redressref05_kind.l0 k x0 x3 (wrap64 (x4 + 1)))) else (none)) else (some 0)
def redressref05_kind.f (k : Nat) (a0 : Int) : Option (Int) := redressref05_kind.l0 k a0 (⟨#[40, 41, 91, 93, 59, 43, 124, 62, 47]⟩ : ByteArray) 0
theorem redressref05_kind.mono_l : ∀ k, (∀ y0 y1 y2, LeO (redressref05_kind.l0 k y0 y1 y2) (redressref05_kind.l0 (k + 1) y0 y1 y2))
  | 0 => fun _ _ _ r h => by simp [redressref05_kind.l0] at h
  | k + 1 => by
    have ih0 := redressref05_kind.mono_l k
    · intro y0 y1 y2
      unfold redressref05_kind.l0
      repeat' first
      | (with_reducible exact ih0 _ _ _)
      | (with_reducible exact LeO.refl _)
      | (with_reducible exact LeO.none _)
      | (with_reducible refine LeO.ite ?_ ?_)
      | (with_reducible refine LeO.bind ?_ (fun _ => ?_))
      | exact ih0 _ _ _
      | exact LeO.none _
      | refine LeO.ite ?_ ?_
      | refine LeO.bind ?_ (fun _ => ?_)
theorem redressref05_kind.mono : ∀ a0 k, LeO (redressref05_kind.f k a0) (redressref05_kind.f (k + 1) a0) := by
  intro a0 k
  have ih0 := redressref05_kind.mono_l k
  unfold redressref05_kind.f
  repeat' first
      | (with_reducible exact ih0 _ _ _)
      | (with_reducible exact LeO.refl _)
      | (with_reducible exact LeO.none _)
      | (with_reducible refine LeO.ite ?_ ?_)
      | (with_reducible refine LeO.bind ?_ (fun _ => ?_))
      | exact ih0 _ _ _
      | exact LeO.none _
      | refine LeO.ite ?_ ?_
      | refine LeO.bind ?_ (fun _ => ?_)
set_option maxHeartbeats 8000000 in
set_option maxRecDepth 100000 in
theorem redressref05_kind.calls (k : Nat) (a0 : Int) (r : Int) (w : World) (h : redressref05_kind.f k a0 = some r) :
    Calls Tryd.prog 65 #[.int .u8 a0] w fun e w' => e = .returned (.int .i64 r) ∧ Drawn0 w w' := by
  have H : (redressref05_kind.l0 k a0 (⟨#[40, 41, 91, 93, 59, 43, 124, 62, 47]⟩ : ByteArray) 0) = some r := h
  clear h
  have H' := Aside0.mk H
  clear H
  go_enter Tryd.func65, Tryd.ntmps65
  go_wp2
  go_loopg [4] k (fun kq v4 w' => ∃ (x4_1 : Int), v4 = .int .i64 x4_1 ∧ Aside0 (redressref05_kind.l0 kq a0 (⟨#[40, 41, 91, 93, 59, 43, 124, 62, 47]⟩ : ByteArray) x4_1 = some r) ∧ Aside0 (kq ≤ k) ∧ Drawn0 w w')
  case atStart => exact ⟨(0), (by first | rfl | (simp; done) | (simp [*]; done)), H', ⟨Nat.le_refl _⟩, by repeat (first | exact Drawn0.refl _ | apply Drawn0.step)⟩
  case round =>
    clear H'
    obtain ⟨x4_1, rfl, HA, HK1, ⟨m1, rfl⟩⟩ := hrel
    cases gk with
    | zero => exact absurd HA.out (by simp [redressref05_kind.l0])
    | succ k1 =>
      have H := HA.out
      clear HA
      simp only [redressref05_kind.l0] at H
      by_cases c2 : x4_1 < ((⟨#[40, 41, 91, 93, 59, 43, 124, 62, 47]⟩ : ByteArray).size : Int)
      · rw [if_pos c2] at H
        have c2b0 : decide (x4_1 < ((⟨#[40, 41, 91, 93, 59, 43, 124, 62, 47]⟩ : ByteArray).size : Int)) = true := decide_eq_true c2
        have c2b9 : decide (x4_1 < 9) = true := decide_eq_true (show x4_1 < (9 : Int) from c2)
        clear c2
        by_cases c3 : 0 ≤ x4_1
        · rw [if_pos c3] at H
          have c3b0 : decide (0 ≤ x4_1) = true := decide_eq_true c3
          clear c3
          by_cases c5 : (bt (⟨#[40, 41, 91, 93, 59, 43, 124, 62, 47]⟩ : ByteArray) x4_1) = a0
          · rw [if_pos c5] at H
            have c5b0 : ((bt (⟨#[40, 41, 91, 93, 59, 43, 124, 62, 47]⟩ : ByteArray) x4_1) == a0) = true := beq_iff_eq.mpr c5
            have c5b1 : ((bt (⟨#[40, 41, 91, 93, 59, 43, 124, 62, 47]⟩ : ByteArray) x4_1) != a0) = false := bne_eq_false_iff_eq.mpr c5
            clear c5
            obtain rfl := Option.some.inj H
            have p4 : 0 ≤ (x4_1 : Int) := of_decide_eq_true (by first | (with_reducible assumption) | assumption)
            have q4 : x4_1 < (9 : Int) := of_decide_eq_true (by first | (with_reducible assumption) | assumption)
            have hx4 := bt_at (⟨#[40, 41, 91, 93, 59, 43, 124, 62, 47]⟩ : ByteArray) x4_1
            replace p4 := eq_true p4
            replace q4 := eq_true q4
            go_wp2
            go_ret
            exact ⟨by first | rfl | (simp; done) | (simp [*]; done), by repeat (first | exact Drawn0.refl _ | apply Drawn0.step)⟩
          · rw [if_neg c5] at H
            have c5b0 : ((bt (⟨#[40, 41, 91, 93, 59, 43, 124, 62, 47]⟩ : ByteArray) x4_1) == a0) = false := beq_eq_false_iff_ne.mpr c5
            have c5b1 : ((bt (⟨#[40, 41, 91, 93, 59, 43, 124, 62, 47]⟩ : ByteArray) x4_1) != a0) = true := bne_iff_ne.mpr c5
            have H' := Aside0.mk H
            clear H
            have p4 : 0 ≤ (x4_1 : Int) := of_decide_eq_true (by first | (with_reducible assumption) | assumption)
            have q4 : x4_1 < (9 : Int) := of_decide_eq_true (by first | (with_reducible assumption) | assumption)
            have hx4 := bt_at (⟨#[40, 41, 91, 93, 59, 43, 124, 62, 47]⟩ : ByteArray) x4_1
            replace p4 := eq_true p4
            replace q4 := eq_true q4
            go_wp2
            go_roundg k1
            case measure => have := HK1.out; omega
            case rel => exact ⟨(wrap64 (x4_1 + 1)), (by first | rfl | (simp; done) | (simp [*]; done)), H', ⟨by have := HK1.out; omega⟩, by repeat (first | exact Drawn0.refl _ | apply Drawn0.step)⟩
        · rw [if_neg c3] at H
          exact absurd H (by simp)
      · rw [if_neg c2] at H
        have c2b0 : decide (x4_1 < ((⟨#[40, 41, 91, 93, 59, 43, 124, 62, 47]⟩ : ByteArray).size : Int)) = false := decide_eq_false c2
        have c2b9 : decide (x4_1 < 9) = false := decide_eq_false (show ¬ x4_1 < (9 : Int) from c2)
        clear c2
        obtain rfl := Option.some.inj H
        go_wp2
        go_ret
        exact ⟨by first | rfl | (simp; done) | (simp [*]; done), by repeat (first | exact Drawn0.refl _ | apply Drawn0.step)⟩

end Go.Proofs.YtefiadocljnpjaaDoor.PK

-- Of this seat's own make: written by a program of this session's repo (wip/inject.py) over the kit's printer, with some functions given by hand.
import Derived.Test.YtefiadocljnpjaaDoorPKx0
namespace Go.Proofs.YtefiadocljnpjaaDoor.PK
open Go.RowKit Go.Proofs.YtefiadocljnpjaaDoorW.PrintWords Go.Proofs.YtefiadocljnpjaaDoorW.PrintLast Go.Proofs.YtefiadocljnpjaaDoorW.PrintMore
attribute [local go_sem] max2_int min2_int max_two min_two max_three min_three max_four min_four   -- for this text's walks alone
set_option linter.unusedVariables false
set_option linter.unusedSimpArgs false

/-! ### redressref05_Word: function 29 -/
def redressref05_Word.f (a0 : ByteArray) : Option (Int) := if a0.toList = ([115, 107, 105, 112] : List UInt8) then (some 1) else (if a0.toList = ([116, 104, 114, 111, 119] : List UInt8) then (some 2) else (if a0.toList = ([121, 105, 101, 108, 100] : List UInt8) then (some 3) else (if a0.toList = ([115, 107, 105, 112, 112] : List UInt8) then (some 4) else (if a0.toList = ([116, 104, 114, 111, 119, 119] : List UInt8) then (some 5) else (if a0.toList = ([121, 105, 101, 108, 100, 100] : List UInt8) then (some 6) else (some 0))))))
set_option maxHeartbeats 8000000 in
set_option maxRecDepth 100000 in
theorem redressref05_Word.calls (a0 : ByteArray) (r : Int) (w : World) (h : redressref05_Word.f a0 = some r) :
    Calls Tryd.prog 29 #[.string a0] w fun e w' => e = .returned (.int .i64 r) ∧ Drawn0 w w' := by
  have H : (if a0.toList = ([115, 107, 105, 112] : List UInt8) then (some 1) else (if a0.toList = ([116, 104, 114, 111, 119] : List UInt8) then (some 2) else (if a0.toList = ([121, 105, 101, 108, 100] : List UInt8) then (some 3) else (if a0.toList = ([115, 107, 105, 112, 112] : List UInt8) then (some 4) else (if a0.toList = ([116, 104, 114, 111, 119, 119] : List UInt8) then (some 5) else (if a0.toList = ([121, 105, 101, 108, 100, 100] : List UInt8) then (some 6) else (some 0))))))) = some r := h
  clear h
  by_cases c2 : a0.toList = ([115, 107, 105, 112] : List UInt8)
  · rw [if_pos c2] at H
    have c2b0 : (a0.toList == ([115, 107, 105, 112] : List UInt8)) = true := beq_iff_eq.mpr c2
    have c2b1 : (a0.toList != ([115, 107, 105, 112] : List UInt8)) = false := bne_eq_false_iff_eq.mpr c2
    clear c2
    obtain rfl := Option.some.inj H
    go_enter Tryd.func29, Tryd.ntmps29
    go_wp2
    go_ret
    exact ⟨by first | rfl | (simp; done) | (simp [*]; done), by repeat (first | exact Drawn0.refl _ | apply Drawn0.step)⟩
  · rw [if_neg c2] at H
    have c2b0 : (a0.toList == ([115, 107, 105, 112] : List UInt8)) = false := beq_eq_false_iff_ne.mpr c2
    have c2b1 : (a0.toList != ([115, 107, 105, 112] : List UInt8)) = true := bne_iff_ne.mpr c2
    by_cases c3 : a0.toList = ([116, 104, 114, 111, 119] : List UInt8)
    · rw [if_pos c3] at H
      have c3b0 : (a0.toList == ([116, 104, 114, 111, 119] : List UInt8)) = true := beq_iff_eq.mpr c3
      have c3b1 : (a0.toList != ([116, 104, 114, 111, 119] : List UInt8)) = false := bne_eq_false_iff_eq.mpr c3
      clear c3
      obtain rfl := Option.some.inj H
      go_enter Tryd.func29, Tryd.ntmps29
      go_wp2
      go_ret
      exact ⟨by first | rfl | (simp; done) | (simp [*]; done), by repeat (first | exact Drawn0.refl _ | apply Drawn0.step)⟩
    · rw [if_neg c3] at H
      have c3b0 : (a0.toList == ([116, 104, 114, 111, 119] : List UInt8)) = false := beq_eq_false_iff_ne.mpr c3
      have c3b1 : (a0.toList != ([116, 104, 114, 111, 119] : List UInt8)) = true := bne_iff_ne.mpr c3
      by_cases c4 : a0.toList = ([121, 105, 101, 108, 100] : List UInt8)
      · rw [if_pos c4] at H
        have c4b0 : (a0.toList == ([121, 105, 101, 108, 100] : List UInt8)) = true := beq_iff_eq.mpr c4
        have c4b1 : (a0.toList != ([121, 105, 101, 108, 100] : List UInt8)) = false := bne_eq_false_iff_eq.mpr c4
        clear c4
        obtain rfl := Option.some.inj H
        go_enter Tryd.func29, Tryd.ntmps29
        go_wp2
        go_ret
        exact ⟨by first | rfl | (simp; done) | (simp [*]; done), by repeat (first | exact Drawn0.refl _ | apply Drawn0.step)⟩
      · rw [if_neg c4] at H
        have c4b0 : (a0.toList == ([121, 105, 101, 108, 100] : List UInt8)) = false := beq_eq_false_iff_ne.mpr c4
        have c4b1 : (a0.toList != ([121, 105, 101, 108, 100] : List UInt8)) = true := bne_iff_ne.mpr c4
        by_cases c5 : a0.toList = ([115, 107, 105, 112, 112] : List UInt8)
        · rw [if_pos c5] at H
          have c5b0 : (a0.toList == ([115, 107, 105, 112, 112] : List UInt8)) = true := beq_iff_eq.mpr c5
          have c5b1 : (a0.toList != ([115, 107, 105, 112, 112] : List UInt8)) = false := bne_eq_false_iff_eq.mpr c5
          clear c5
          obtain rfl := Option.some.inj H
          go_enter Tryd.func29, Tryd.ntmps29
          go_wp2
          go_ret
          exact ⟨by first | rfl | (simp; done) | (simp [*]; done), by repeat (first | exact Drawn0.refl _ | apply Drawn0.step)⟩
        · rw [if_neg c5] at H
          have c5b0 : (a0.toList == ([115, 107, 105, 112, 112] : List UInt8)) = false := beq_eq_false_iff_ne.mpr c5
          have c5b1 : (a0.toList != ([115, 107, 105, 112, 112] : List UInt8)) = true := bne_iff_ne.mpr c5
          by_cases c6 : a0.toList = ([116, 104, 114, 111, 119, 119] : List UInt8)
          · rw [if_pos c6] at H
            have c6b0 : (a0.toList == ([116, 104, 114, 111, 119, 119] : List UInt8)) = true := beq_iff_eq.mpr c6
            have c6b1 : (a0.toList != ([116, 104, 114, 111, 119, 119] : List UInt8)) = false := bne_eq_false_iff_eq.mpr c6
            clear c6
            obtain rfl := Option.some.inj H
            go_enter Tryd.func29, Tryd.ntmps29
            go_wp2
            go_ret
            exact ⟨by first | rfl | (simp; done) | (simp [*]; done), by repeat (first | exact Drawn0.refl _ | apply Drawn0.step)⟩
          · rw [if_neg c6] at H
            have c6b0 : (a0.toList == ([116, 104, 114, 111, 119, 119] : List UInt8)) = false := beq_eq_false_iff_ne.mpr c6
            have c6b1 : (a0.toList != ([116, 104, 114, 111, 119, 119] : List UInt8)) = true := bne_iff_ne.mpr c6
            by_cases c7 : a0.toList = ([121, 105, 101, 108, 100, 100] : List UInt8)
            · rw [if_pos c7] at H
              have c7b0 : (a0.toList == ([121, 105, 101, 108, 100, 100] : List UInt8)) = true := beq_iff_eq.mpr c7
              have c7b1 : (a0.toList != ([121, 105, 101, 108, 100, 100] : List UInt8)) = false := bne_eq_false_iff_eq.mpr c7
              clear c7
              obtain rfl := Option.some.inj H
              go_enter Tryd.func29, Tryd.ntmps29
              go_wp2
              go_ret
              exact ⟨by first | rfl | (simp; done) | (simp [*]; done), by repeat (first | exact Drawn0.refl _ | apply Drawn0.step)⟩
            · rw [if_neg c7] at H
              have c7b0 : (a0.toList == ([121, 105, 101, 108, 100, 100] : List UInt8)) = false := beq_eq_false_iff_ne.mpr c7
              have c7b1 : (a0.toList != ([121, 105, 101, 108, 100, 100] : List UInt8)) = true := bne_iff_ne.mpr c7
              obtain rfl := Option.some.inj H
              go_enter Tryd.func29, Tryd.ntmps29
              go_wp2
              go_ret
              exact ⟨by first | rfl | (simp; done) | (simp [*]; done), by repeat (first | exact Drawn0.refl _ | apply Drawn0.step)⟩

-- NOT PRINTED: function 8 (redresslaw05_TokenWords)

end Go.Proofs.YtefiadocljnpjaaDoor.PK

-- Of this seat's own make: written by a program of this session's repo (wip/inject.py) over the kit's printer, with some functions given by hand.
import Derived.Test.YtcbemeooeecboaaPKx0
namespace Go.Proofs.Ytcbemeooeecboaa.PK
open Go.RowKit Go.Proofs.YtcbemeooeecboaaW.PrintWords Go.Proofs.YtcbemeooeecboaaW.PrintLast Go.Proofs.YtcbemeooeecboaaW.PrintMore
attribute [local go_sem] max2_int min2_int max_two min_two max_three min_three max_four min_four   -- for this text's walks alone
set_option linter.unusedVariables false
set_option linter.unusedSimpArgs false

/-! ### redresslaw09_few: function 9 -/
def redresslaw09_few.f (l0 : List (S44)) : Option (Bool) := some (decide ((l0.length : Int) ≤ 210))
set_option maxHeartbeats 8000000 in
set_option maxRecDepth 100000 in
theorem redresslaw09_few.calls (A0 : Option Addr) (c0 : Nat) (l0 : List (S44)) (r : Bool) (w : World) (hr0 : Kd.C k44 w A0 l0.length l0) (hc0 : l0.length ≤ c0) (h : redresslaw09_few.f l0 = some r) :
    Calls Try.prog 9 #[.slice A0 l0.length c0] w fun e w' => e = .returned (.bool r) ∧ Drawn0 w w' := by
  have HR0 := Aside0.mk hr0
  have HC0 := Aside0.mk hc0
  clear hr0 hc0
  have H : (some (decide ((l0.length : Int) ≤ 210))) = some r := h
  clear h
  obtain rfl := Option.some.inj H
  go_enter Try.func9, Try.ntmps9
  go_wp2
  go_ret
  exact ⟨by first | rfl | (simp; done) | (simp [*]; done), by repeat (first | exact Drawn0.refl _ | apply Drawn0.step)⟩

-- NOT PRINTED: function 24 (row_Size)

-- NOT PRINTED: function 34 (plot_one)

end Go.Proofs.Ytcbemeooeecboaa.PK

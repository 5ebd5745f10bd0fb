-- Of this seat's own make: written by a program of this session's repo (wip/inject.py) over the kit's printer, with some functions given by hand.
import Derived.Test.YtefiadocljnpjaaDoorPKx0
import Derived.Test.YtefiadocljnpjaaDoorPKx23
import Derived.Test.YtefiadocljnpjaaDoorPKx13
import Derived.Test.YtefiadocljnpjaaDoorPKx11
namespace Go.Proofs.YtefiadocljnpjaaDoor.PK
open Go.RowKit Go.Proofs.YtefiadocljnpjaaDoorW.PrintWords Go.Proofs.YtefiadocljnpjaaDoorW.PrintLast Go.Proofs.YtefiadocljnpjaaDoorW.PrintMore
attribute [local go_sem] max2_int min2_int max_two min_two max_three min_three max_four min_four   -- for this text's walks alone
set_option linter.unusedVariables false
set_option linter.unusedSimpArgs false

/-! ### redresslaw04_few: function 50 -/
def redresslaw04_few.f (k : Nat) (l0 : List (S48)) : Option (Bool) := if (l0.length : Int) ≤ 120 then ((redressref03_Depth.f k l0).bind fun t234 => (some (decide (t234 ≤ 24)))) else (some false)
theorem redresslaw04_few.mono : ∀ a0 k, LeO (redresslaw04_few.f k a0) (redresslaw04_few.f (k + 1) a0) := by
  intro a0 k
  unfold redresslaw04_few.f
  repeat' first
      | (with_reducible exact redressref03_Depth.mono _ _)
      | (with_reducible exact LeO.refl _)
      | (with_reducible exact LeO.none _)
      | (with_reducible refine LeO.ite ?_ ?_)
      | (with_reducible refine LeO.bind ?_ (fun _ => ?_))
      | exact redressref03_Depth.mono _ _
      | exact LeO.none _
      | refine LeO.ite ?_ ?_
      | refine LeO.bind ?_ (fun _ => ?_)
set_option maxHeartbeats 8000000 in
set_option maxRecDepth 100000 in
theorem redresslaw04_few.calls (k : Nat) (A0 : Option Addr) (c0 : Nat) (l0 : List (S48)) (r : Bool) (w : World) (hr0 : Kd.C k48 w A0 l0.length l0) (hc0 : l0.length ≤ c0) (h : redresslaw04_few.f k l0 = some r) :
    Calls Tryd.prog 50 #[.slice A0 l0.length c0] w fun e w' => e = .returned (.bool r) ∧ Drawn0 w w' := by
  have HR0 := Aside0.mk hr0
  have HC0 := Aside0.mk hc0
  clear hr0 hc0
  have H : (if (l0.length : Int) ≤ 120 then ((redressref03_Depth.f k l0).bind fun t234 => (some (decide (t234 ≤ 24)))) else (some false)) = some r := h
  clear h
  by_cases c2 : (l0.length : Int) ≤ 120
  · rw [if_pos c2] at H
    have c2b0 : decide ((l0.length : Int) ≤ 120) = true := decide_eq_true c2
    have c2b1 : decide (l0.length ≤ 120) = true := decide_eq_true (by omega)
    clear c2
    replace H := Option.bind_eq_some_iff.mp H
    obtain ⟨t234, A30, H⟩ := H
    replace H : (some (decide (t234 ≤ 24))) = some r := H
    have A3 := Aside0.mk A30
    clear A30
    obtain rfl := Option.some.inj H
    go_enter Tryd.func50, Tryd.ntmps50
    go_wp2_with (first | (go_at_call 39; (with_reducible refine (redressref03_Depth.calls k _ _ l0 t234 _ ?side1 ?side2 A3.out).mono ?_); (case side1 => repeat (first | exact HR0.out | (with_reducible refine Kd.C_alloc ?_ _) | (with_reducible refine Kd.C_drewN ?_ _) | (with_reducible refine Kd.C_drew ?_))); (case side2 => exact HC0.out); rintro e w' ⟨rfl, ⟨nd, rfl⟩⟩))
    go_ret
    exact ⟨by first | rfl | (simp; done) | (simp [*]; done), by repeat (first | exact Drawn0.refl _ | apply Drawn0.step)⟩
  · rw [if_neg c2] at H
    have c2b0 : decide ((l0.length : Int) ≤ 120) = false := decide_eq_false c2
    have c2b1 : decide (l0.length ≤ 120) = false := decide_eq_false (by omega)
    clear c2
    obtain rfl := Option.some.inj H
    go_enter Tryd.func50, Tryd.ntmps50
    go_wp2
    go_ret
    exact ⟨by first | rfl | (simp; done) | (simp [*]; done), by repeat (first | exact Drawn0.refl _ | apply Drawn0.step)⟩

/-! ### sort_on: function 82 -/
def sort_on.f (a0 : Int) : Option (Int) := if a0 = 1 then (some (wrap64 ((wrap64 (a0 + 3)) - 1))) else (if a0 = 2 then (some (wrap64 ((wrap64 (a0 + 3)) - 1))) else (some a0))
set_option maxHeartbeats 8000000 in
set_option maxRecDepth 100000 in
theorem sort_on.calls (a0 : Int) (r : Int) (w : World) (h : sort_on.f a0 = some r) :
    Calls Tryd.prog 82 #[.int .i64 a0] w fun e w' => e = .returned (.int .i64 r) ∧ Drawn0 w w' := by
  have H : (if a0 = 1 then (some (wrap64 ((wrap64 (a0 + 3)) - 1))) else (if a0 = 2 then (some (wrap64 ((wrap64 (a0 + 3)) - 1))) else (some a0))) = some r := h
  clear h
  by_cases c2 : a0 = 1
  · rw [if_pos c2] at H
    have c2b0 : (a0 == 1) = true := beq_iff_eq.mpr c2
    have c2b1 : (a0 != 1) = false := bne_eq_false_iff_eq.mpr c2
    clear c2
    obtain rfl := Option.some.inj H
    go_enter Tryd.func82, Tryd.ntmps82
    go_wp2
    go_ret
    exact ⟨by first | rfl | (simp; done) | (simp [*]; done), by repeat (first | exact Drawn0.refl _ | apply Drawn0.step)⟩
  · rw [if_neg c2] at H
    have c2b0 : (a0 == 1) = false := beq_eq_false_iff_ne.mpr c2
    have c2b1 : (a0 != 1) = true := bne_iff_ne.mpr c2
    by_cases c3 : a0 = 2
    · rw [if_pos c3] at H
      have c3b0 : (a0 == 2) = true := beq_iff_eq.mpr c3
      have c3b1 : (a0 != 2) = false := bne_eq_false_iff_eq.mpr c3
      clear c3
      obtain rfl := Option.some.inj H
      go_enter Tryd.func82, Tryd.ntmps82
      go_wp2
      go_ret
      exact ⟨by first | rfl | (simp; done) | (simp [*]; done), by repeat (first | exact Drawn0.refl _ | apply Drawn0.step)⟩
    · rw [if_neg c3] at H
      have c3b0 : (a0 == 2) = false := beq_eq_false_iff_ne.mpr c3
      have c3b1 : (a0 != 2) = true := bne_iff_ne.mpr c3
      obtain rfl := Option.some.inj H
      go_enter Tryd.func82, Tryd.ntmps82
      go_wp2
      go_ret
      exact ⟨by first | rfl | (simp; done) | (simp [*]; done), by repeat (first | exact Drawn0.refl _ | apply Drawn0.step)⟩

/-! ### sort_both: function 95 -/
def sort_both.f (a0 : Int) (a1 : Int) : Option (Int) := (sort_on.f a0).bind fun t235 => ((sort_on.f a1).bind fun t236 => (if t235 = t236 then (some (mx a0 a1)) else (some 0)))
set_option maxHeartbeats 8000000 in
set_option maxRecDepth 100000 in
theorem sort_both.calls (a0 : Int) (a1 : Int) (r : Int) (w : World) (h : sort_both.f a0 a1 = some r) :
    Calls Tryd.prog 95 #[.int .i64 a0, .int .i64 a1] w fun e w' => e = .returned (.int .i64 r) ∧ Below w.heap.size w w' := by
  have HB := Aside0.mk (Below.refl w.heap.size w)
  have H : ((sort_on.f a0).bind fun t235 => ((sort_on.f a1).bind fun t236 => (if t235 = t236 then (some (mx a0 a1)) else (some 0)))) = some r := h
  clear h
  replace H := Option.bind_eq_some_iff.mp H
  obtain ⟨t235, A30, H⟩ := H
  replace H : ((sort_on.f a1).bind fun t236 => (if t235 = t236 then (some (mx a0 a1)) else (some 0))) = some r := H
  have A3 := Aside0.mk A30
  clear A30
  replace H := Option.bind_eq_some_iff.mp H
  obtain ⟨t236, A40, H⟩ := H
  replace H : (if t235 = t236 then (some (mx a0 a1)) else (some 0)) = some r := H
  have A4 := Aside0.mk A40
  clear A40
  by_cases c5 : t235 = t236
  · rw [if_pos c5] at H
    have c5b0 : (t235 == t236) = true := beq_iff_eq.mpr c5
    have c5b1 : (t235 != t236) = false := bne_eq_false_iff_eq.mpr c5
    clear c5
    obtain ⟨ji6, hji6⟩ : ∃ j_ : Int, (mx a0 a1) = j_ := ⟨_, rfl⟩
    replace H : (some ji6) = some r := by first | (rw [hji6] at H; exact H) | (simp only [hji6] at H ⊢; exact H)
    (try rw [hji6] at A3)
    (try rw [hji6] at A4)
    have hji6_ : (if a0 < a1 then a1 else a0) = ji6 := hji6
    obtain rfl := Option.some.inj H
    go_enter Tryd.func95, Tryd.ntmps95
    go_wp2_with (first | ((with_reducible refine gate_callee (f := 82) rfl ?_); refine goesL_ (some 6) rfl rfl Tryd.func82 (by kernel_rfl) rfl #[.int .i64 a0] rfl (by (try simp only [List.map_toArray, List.map_cons, List.map_nil]); first | done | rfl | (simp only [List.length_drop, List.length_take]; rfl)) ?_; (with_reducible refine (sort_on.calls a0 t235 _ A3.out).mono ?_); rintro e w' ⟨rfl, ⟨nd, rfl⟩⟩; refine ⟨_, rfl, ?_⟩) | ((with_reducible refine gate_callee (f := 82) rfl ?_); refine goesL_ (some 8) rfl rfl Tryd.func82 (by kernel_rfl) rfl #[.int .i64 a1] rfl (by (try simp only [List.map_toArray, List.map_cons, List.map_nil]); first | done | rfl | (simp only [List.length_drop, List.length_take]; rfl)) ?_; (with_reducible refine (sort_on.calls a1 t236 _ A4.out).mono ?_); rintro e w' ⟨rfl, ⟨nd, rfl⟩⟩; refine ⟨_, rfl, ?_⟩))
    go_ret
    exact ⟨by first | rfl | (simp [errW_none, errW_some] <;> rfl) | (simp only [← hji6]; first | rfl | (simp [errW_none, errW_some] <;> rfl)) | (simp [*, errW_none, errW_some] <;> rfl), by repeat (first | (with_reducible first | exact HB.out | apply below_alloc | apply pw_below_drewN | apply below_drew1) | exact HB.out)⟩
  · rw [if_neg c5] at H
    have c5b0 : (t235 == t236) = false := beq_eq_false_iff_ne.mpr c5
    have c5b1 : (t235 != t236) = true := bne_iff_ne.mpr c5
    obtain rfl := Option.some.inj H
    go_enter Tryd.func95, Tryd.ntmps95
    go_wp2_with (first | ((with_reducible refine gate_callee (f := 82) rfl ?_); refine goesL_ (some 6) rfl rfl Tryd.func82 (by kernel_rfl) rfl #[.int .i64 a0] rfl (by (try simp only [List.map_toArray, List.map_cons, List.map_nil]); first | done | rfl | (simp only [List.length_drop, List.length_take]; rfl)) ?_; (with_reducible refine (sort_on.calls a0 t235 _ A3.out).mono ?_); rintro e w' ⟨rfl, ⟨nd, rfl⟩⟩; refine ⟨_, rfl, ?_⟩) | ((with_reducible refine gate_callee (f := 82) rfl ?_); refine goesL_ (some 8) rfl rfl Tryd.func82 (by kernel_rfl) rfl #[.int .i64 a1] rfl (by (try simp only [List.map_toArray, List.map_cons, List.map_nil]); first | done | rfl | (simp only [List.length_drop, List.length_take]; rfl)) ?_; (with_reducible refine (sort_on.calls a1 t236 _ A4.out).mono ?_); rintro e w' ⟨rfl, ⟨nd, rfl⟩⟩; refine ⟨_, rfl, ?_⟩))
    go_ret
    exact ⟨by first | rfl | (simp [errW_none, errW_some] <;> rfl) | (simp [*, errW_none, errW_some] <;> rfl), by repeat (first | (with_reducible first | exact HB.out | apply below_alloc | apply pw_below_drewN | apply below_drew1) | exact HB.out)⟩

/-! ### sort_behind: function 96 -/
def sort_behind.f (a0 : Int) (a1 : Int) (a2 : Int) : Option (Int) := if a1 = a2 then ((sort_on.f a0).bind fun t237 => ((sort_on.f a2).bind fun t238 => (if t237 = t238 then (some a0) else (some 0)))) else (some 0)
set_option maxHeartbeats 8000000 in
set_option maxRecDepth 100000 in
theorem sort_behind.calls (a0 : Int) (a1 : Int) (a2 : Int) (r : Int) (w : World) (h : sort_behind.f a0 a1 a2 = some r) :
    Calls Tryd.prog 96 #[.int .i64 a0, .int .i64 a1, .int .i64 a2] w fun e w' => e = .returned (.int .i64 r) ∧ Drawn0 w w' := by
  have H : (if a1 = a2 then ((sort_on.f a0).bind fun t237 => ((sort_on.f a2).bind fun t238 => (if t237 = t238 then (some a0) else (some 0)))) else (some 0)) = some r := h
  clear h
  by_cases c4 : a1 = a2
  · rw [if_pos c4] at H
    have c4b0 : (a1 == a2) = true := beq_iff_eq.mpr c4
    have c4b1 : (a1 != a2) = false := bne_eq_false_iff_eq.mpr c4
    clear c4
    replace H := Option.bind_eq_some_iff.mp H
    obtain ⟨t237, A50, H⟩ := H
    replace H : ((sort_on.f a2).bind fun t238 => (if t237 = t238 then (some a0) else (some 0))) = some r := H
    have A5 := Aside0.mk A50
    clear A50
    replace H := Option.bind_eq_some_iff.mp H
    obtain ⟨t238, A60, H⟩ := H
    replace H : (if t237 = t238 then (some a0) else (some 0)) = some r := H
    have A6 := Aside0.mk A60
    clear A60
    by_cases c7 : t237 = t238
    · rw [if_pos c7] at H
      have c7b0 : (t237 == t238) = true := beq_iff_eq.mpr c7
      have c7b1 : (t237 != t238) = false := bne_eq_false_iff_eq.mpr c7
      clear c7
      obtain rfl := Option.some.inj H
      go_enter Tryd.func96, Tryd.ntmps96
      go_wp2_with (first | (go_at_call 82; (with_reducible refine (sort_on.calls a0 t237 _ A5.out).mono ?_); rintro e w' ⟨rfl, ⟨nd, rfl⟩⟩) | (go_at_call 82; (with_reducible refine (sort_on.calls a2 t238 _ A6.out).mono ?_); rintro e w' ⟨rfl, ⟨nd, rfl⟩⟩))
      go_ret
      exact ⟨by first | rfl | (simp; done) | (simp [*]; done), by repeat (first | exact Drawn0.refl _ | apply Drawn0.step)⟩
    · rw [if_neg c7] at H
      have c7b0 : (t237 == t238) = false := beq_eq_false_iff_ne.mpr c7
      have c7b1 : (t237 != t238) = true := bne_iff_ne.mpr c7
      obtain rfl := Option.some.inj H
      go_enter Tryd.func96, Tryd.ntmps96
      go_wp2_with (first | (go_at_call 82; (with_reducible refine (sort_on.calls a0 t237 _ A5.out).mono ?_); rintro e w' ⟨rfl, ⟨nd, rfl⟩⟩) | (go_at_call 82; (with_reducible refine (sort_on.calls a2 t238 _ A6.out).mono ?_); rintro e w' ⟨rfl, ⟨nd, rfl⟩⟩))
      go_ret
      exact ⟨by first | rfl | (simp; done) | (simp [*]; done), by repeat (first | exact Drawn0.refl _ | apply Drawn0.step)⟩
  · rw [if_neg c4] at H
    have c4b0 : (a1 == a2) = false := beq_eq_false_iff_ne.mpr c4
    have c4b1 : (a1 != a2) = true := bne_iff_ne.mpr c4
    obtain rfl := Option.some.inj H
    go_enter Tryd.func96, Tryd.ntmps96
    go_wp2
    go_ret
    exact ⟨by first | rfl | (simp; done) | (simp [*]; done), by repeat (first | exact Drawn0.refl _ | apply Drawn0.step)⟩

end Go.Proofs.YtefiadocljnpjaaDoor.PK
-- Of this seat's own make: written by a program of this session's repo (wip/inject.py) over the kit's printer, with some functions given by hand.
namespace Go.Proofs.YtefiadocljnpjaaDoor.PK
open Go.RowKit Go.Proofs.YtefiadocljnpjaaDoorW.PrintWords Go.Proofs.YtefiadocljnpjaaDoorW.PrintLast Go.Proofs.YtefiadocljnpjaaDoorW.PrintMore
attribute [local go_sem] max2_int min2_int max_two min_two max_three min_three max_four min_four   -- for this text's walks alone
set_option linter.unusedVariables false
set_option linter.unusedSimpArgs false

/-! ### sort_sort: function 80 -/
mutual
def sort_sort.l0 : Nat → List (S48) → List Int → List (List (S48)) → Int → Int → Option (Int)
  | 0, _, _, _, _, _ => none
  | k + 1, x0, x3, x8, x9, x10 => if x10 < x9 then (if 0 ≤ x10 then (if x10 < (x8.length : Int) then ((sort_sort.f k (rd_L9 x8 x10)).bind fun t243 => (if t243 = 0 then (some 0) else (if x3.length < 17592186044416 then (sort_sort.l0 k x0 (x3 ++ [t243]) x8 x9 (wrap64 (x10 + 1))) else (none)))) else (none)) else (none)) else (if 0 < (x0.length : Int) then (if ((rd_T48 x0 0).f0) = 1 then (sort_sort.j1 k x3 ((rd_T48 x0 0).f0) (((rd_T48 x0 0).f0) == 1)) else (if ((rd_T48 x0 0).f0) = 2 then (sort_sort.j1 k x3 ((rd_T48 x0 0).f0) (((rd_T48 x0 0).f0) == 2)) else (if ((rd_T48 x0 0).f0) = 3 then (sort_sort.j1 k x3 ((rd_T48 x0 0).f0) (((rd_T48 x0 0).f0) == 3)) else (sort_sort.j1 k x3 ((rd_T48 x0 0).f0) (((rd_T48 x0 0).f0) == 4))))) else (none))
def sort_sort.j1 : Nat → List Int → Int → Bool → Option (Int)
  | 0, _, _, _ => none
  | k + 1, x3, x26, x27 => if x27 = true then (some 1) else (if x26 = 11 then (some 3) else (if x26 = 6 then (if 0 < (x3.length : Int) then (if (rd x3 0) > 2 then (sort_sort.j2 k x3 true) else (if 1 < (x3.length : Int) then (sort_sort.j2 k x3 (decide ((rd x3 1) > 2))) else (none))) else (none)) else (if x26 = 7 then (if 0 < (x3.length : Int) then (if 1 < (x3.length : Int) then ((sort_both.f (rd x3 0) (rd x3 1)).bind fun t250 => (some t250)) else (none)) else (none)) else (if x26 = 5 then (if 0 < (x3.length : Int) then (if 1 < (x3.length : Int) then ((sort_behind.f (rd x3 0) (rd x3 1) 1).bind fun t253 => ((sort_behind.f (rd x3 0) (rd x3 1) 2).bind fun t256 => (some (mx t253 t256)))) else (none)) else (none)) else (if x26 = 8 then (if 0 < (x3.length : Int) then (if 1 < (x3.length : Int) then ((sort_behind.f (rd x3 0) (rd x3 1) 1).bind fun t271 => (some t271)) else (none)) else (none)) else (if x26 = 9 then (if 0 < (x3.length : Int) then ((sort_on.f (rd x3 0)).bind fun t258 => (if t258 = 4 then (some (wrap64 ((rd x3 0) - 1))) else (some 0))) else (none)) else (if x26 = 10 then (if 0 < (x3.length : Int) then (if (rd x3 0) = 1 then (if 1 < (x3.length : Int) then (sort_sort.j3 k ((rd x3 1) == 1)) else (none)) else (sort_sort.j3 k false)) else (none)) else (if x26 = 12 then (if 0 < (x3.length : Int) then ((sort_on.f (rd x3 0)).bind fun t261 => (if t261 = 3 then (if 1 < (x3.length : Int) then (if (rd x3 1) = 1 then (some 4) else (some 0)) else (none)) else (some 0))) else (none)) else (if x26 = 13 then (if 0 < (x3.length : Int) then ((sort_on.f (rd x3 0)).bind fun t275 => (if t275 = 4 then (if 1 < (x3.length : Int) then (sort_sort.j4 k ((rd x3 1) == 1)) else (none)) else (sort_sort.j4 k false))) else (none)) else (if x26 = 14 then (if 0 < (x3.length : Int) then (if (rd x3 0) = 1 then (some 4) else (some 0)) else (none)) else (some 0)))))))))))
def sort_sort.j2 : Nat → List Int → Bool → Option (Int)
  | 0, _, _ => none
  | k + 1, x3, x61 => if x61 = true then (some 0) else (if 0 < (x3.length : Int) then (if 1 < (x3.length : Int) then ((sort_both.f (rd x3 0) (rd x3 1)).bind fun t268 => (some t268)) else (none)) else (none))
def sort_sort.j3 : Nat → Bool → Option (Int)
  | 0, _ => none
  | k + 1, x109 => if x109 = true then (some 2) else (some 0)
def sort_sort.j4 : Nat → Bool → Option (Int)
  | 0, _ => none
  | k + 1, x131 => if x131 = true then (some 4) else (some 0)
def sort_sort.f : Nat → List (S48) → Option (Int)
  | 0, _ => none
  | k + 1, l0 => (row_Kids.f k l0).bind fun t239 => (sort_sort.l0 k l0 ([] : List Int) t239 (t239.length : Int) 0)
end
theorem sort_sort.mono_l : ∀ k, (∀ y0, LeO (sort_sort.f k y0) (sort_sort.f (k + 1) y0)) ∧ (∀ y0 y1 y2 y3 y4, LeO (sort_sort.l0 k y0 y1 y2 y3 y4) (sort_sort.l0 (k + 1) y0 y1 y2 y3 y4)) ∧ (∀ y0 y1 y2, LeO (sort_sort.j1 k y0 y1 y2) (sort_sort.j1 (k + 1) y0 y1 y2)) ∧ (∀ y0 y1, LeO (sort_sort.j2 k y0 y1) (sort_sort.j2 (k + 1) y0 y1)) ∧ (∀ y0, LeO (sort_sort.j3 k y0) (sort_sort.j3 (k + 1) y0)) ∧ (∀ y0, LeO (sort_sort.j4 k y0) (sort_sort.j4 (k + 1) y0))
  | 0 => ⟨fun _ r h => by simp [sort_sort.f] at h, fun _ _ _ _ _ r h => by simp [sort_sort.l0] at h, fun _ _ _ r h => by simp [sort_sort.j1] at h, fun _ _ r h => by simp [sort_sort.j2] at h, fun _ r h => by simp [sort_sort.j3] at h, fun _ r h => by simp [sort_sort.j4] at h⟩
  | k + 1 => by
    obtain ⟨ih0, ih1, ih2, ih3, ih4, ih5⟩ := sort_sort.mono_l k
    refine ⟨?_, ?_, ?_, ?_, ?_, ?_⟩
    · intro y0
      unfold sort_sort.f
      repeat' first
      | (with_reducible exact ih0 _)
      | (with_reducible exact ih1 _ _ _ _ _)
      | (with_reducible exact ih2 _ _ _)
      | (with_reducible exact ih3 _ _)
      | (with_reducible exact ih4 _)
      | (with_reducible exact ih5 _)
      | (with_reducible exact row_Kids.mono _ _)
      | (with_reducible exact LeO.refl _)
      | (with_reducible exact LeO.none _)
      | (with_reducible refine LeO.ite ?_ ?_)
      | (with_reducible refine LeO.bind ?_ (fun _ => ?_))
      | exact ih0 _
      | exact ih1 _ _ _ _ _
      | exact ih2 _ _ _
      | exact ih3 _ _
      | exact ih4 _
      | exact ih5 _
      | exact row_Kids.mono _ _
      | exact LeO.none _
      | refine LeO.ite ?_ ?_
      | refine LeO.bind ?_ (fun _ => ?_)
    · intro y0 y1 y2 y3 y4
      unfold sort_sort.l0
      repeat' first
      | (with_reducible exact ih0 _)
      | (with_reducible exact ih1 _ _ _ _ _)
      | (with_reducible exact ih2 _ _ _)
      | (with_reducible exact ih3 _ _)
      | (with_reducible exact ih4 _)
      | (with_reducible exact ih5 _)
      | (with_reducible exact row_Kids.mono _ _)
      | (with_reducible exact LeO.refl _)
      | (with_reducible exact LeO.none _)
      | (with_reducible refine LeO.ite ?_ ?_)
      | (with_reducible refine LeO.bind ?_ (fun _ => ?_))
      | exact ih0 _
      | exact ih1 _ _ _ _ _
      | exact ih2 _ _ _
      | exact ih3 _ _
      | exact ih4 _
      | exact ih5 _
      | exact row_Kids.mono _ _
      | exact LeO.none _
      | refine LeO.ite ?_ ?_
      | refine LeO.bind ?_ (fun _ => ?_)
    · intro y0 y1 y2
      unfold sort_sort.j1
      repeat' first
      | (with_reducible exact ih0 _)
      | (with_reducible exact ih1 _ _ _ _ _)
      | (with_reducible exact ih2 _ _ _)
      | (with_reducible exact ih3 _ _)
      | (with_reducible exact ih4 _)
      | (with_reducible exact ih5 _)
      | (with_reducible exact row_Kids.mono _ _)
      | (with_reducible exact LeO.refl _)
      | (with_reducible exact LeO.none _)
      | (with_reducible refine LeO.ite ?_ ?_)
      | (with_reducible refine LeO.bind ?_ (fun _ => ?_))
      | exact ih0 _
      | exact ih1 _ _ _ _ _
      | exact ih2 _ _ _
      | exact ih3 _ _
      | exact ih4 _
      | exact ih5 _
      | exact row_Kids.mono _ _
      | exact LeO.none _
      | refine LeO.ite ?_ ?_
      | refine LeO.bind ?_ (fun _ => ?_)
    · intro y0 y1
      unfold sort_sort.j2
      repeat' first
      | (with_reducible exact ih0 _)
      | (with_reducible exact ih1 _ _ _ _ _)
      | (with_reducible exact ih2 _ _ _)
      | (with_reducible exact ih3 _ _)
      | (with_reducible exact ih4 _)
      | (with_reducible exact ih5 _)
      | (with_reducible exact row_Kids.mono _ _)
      | (with_reducible exact LeO.refl _)
      | (with_reducible exact LeO.none _)
      | (with_reducible refine LeO.ite ?_ ?_)
      | (with_reducible refine LeO.bind ?_ (fun _ => ?_))
      | exact ih0 _
      | exact ih1 _ _ _ _ _
      | exact ih2 _ _ _
      | exact ih3 _ _
      | exact ih4 _
      | exact ih5 _
      | exact row_Kids.mono _ _
      | exact LeO.none _
      | refine LeO.ite ?_ ?_
      | refine LeO.bind ?_ (fun _ => ?_)
    · intro y0
      unfold sort_sort.j3
      repeat' first
      | (with_reducible exact ih0 _)
      | (with_reducible exact ih1 _ _ _ _ _)
      | (with_reducible exact ih2 _ _ _)
      | (with_reducible exact ih3 _ _)
      | (with_reducible exact ih4 _)
      | (with_reducible exact ih5 _)
      | (with_reducible exact row_Kids.mono _ _)
      | (with_reducible exact LeO.refl _)
      | (with_reducible exact LeO.none _)
      | (with_reducible refine LeO.ite ?_ ?_)
      | (with_reducible refine LeO.bind ?_ (fun _ => ?_))
      | exact ih0 _
      | exact ih1 _ _ _ _ _
      | exact ih2 _ _ _
      | exact ih3 _ _
      | exact ih4 _
      | exact ih5 _
      | exact row_Kids.mono _ _
      | exact LeO.none _
      | refine LeO.ite ?_ ?_
      | refine LeO.bind ?_ (fun _ => ?_)
    · intro y0
      unfold sort_sort.j4
      repeat' first
      | (with_reducible exact ih0 _)
      | (with_reducible exact ih1 _ _ _ _ _)
      | (with_reducible exact ih2 _ _ _)
      | (with_reducible exact ih3 _ _)
      | (with_reducible exact ih4 _)
      | (with_reducible exact ih5 _)
      | (with_reducible exact row_Kids.mono _ _)
      | (with_reducible exact LeO.refl _)
      | (with_reducible exact LeO.none _)
      | (with_reducible refine LeO.ite ?_ ?_)
      | (with_reducible refine LeO.bind ?_ (fun _ => ?_))
      | exact ih0 _
      | exact ih1 _ _ _ _ _
      | exact ih2 _ _ _
      | exact ih3 _ _
      | exact ih4 _
      | exact ih5 _
      | exact row_Kids.mono _ _
      | exact LeO.none _
      | refine LeO.ite ?_ ?_
      | refine LeO.bind ?_ (fun _ => ?_)
theorem sort_sort.mono : ∀ a0 k, LeO (sort_sort.f k a0) (sort_sort.f (k + 1) a0) := by
  intro a0 k
  obtain ⟨ih0, ih1, ih2, ih3, ih4, ih5⟩ := sort_sort.mono_l k
  exact ih0 a0
def sort_sort.T29 : Bool × List (List Nat × List Nat) := (true, [([], []), ([0], [0]), ([1], [1]), ([], []), ([3], [3]), ([4], [4]), ([2, 5], [2, 5]), ([6, 6, 0, 1, 2, 3, 4, 5, 6], [6])])
def sort_sort.B29 : List Nat := [0, 1, 3, 0, 8, 24, 63, 127]
theorem sort_sort.tab29 : rtab .any (opsOf Tryd.f80 29) = sort_sort.T29 := by kernel_rfl
theorem sort_sort.bits29 : waitsOk sort_sort.T29.2 sort_sort.B29 = true := by kernel_rfl
def sort_sort.T30 : Bool × List (List Nat × List Nat) := (true, [([], []), ([0], [0]), ([1], [1]), ([], []), ([3], [3]), ([4], [4]), ([2, 5], [2, 5]), ([], []), ([7], [7]), ([8], [8]), ([], []), ([10], [10]), ([11], [11]), ([9, 12, 6], [9, 12]), ([6, 13], [6, 13]), ([14, 13, 0, 1, 2, 3, 4, 5, 6, 7, 8, 9, 10, 11, 12, 13, 14], [14])])
def sort_sort.B30 : List Nat := [0, 1, 3, 0, 8, 24, 63, 0, 128, 384, 0, 1024, 3072, 8191, 16383, 32767]
theorem sort_sort.tab30 : rtab .any (opsOf Tryd.f80 30) = sort_sort.T30 := by kernel_rfl
theorem sort_sort.bits30 : waitsOk sort_sort.T30.2 sort_sort.B30 = true := by kernel_rfl
def sort_sort.T31 : Bool × List (List Nat × List Nat) := (true, [([], []), ([0], [0]), ([1], [1]), ([], []), ([3], [3]), ([4], [4]), ([2, 5], [2, 5]), ([6, 6, 0, 1, 2, 3, 4, 5, 6], [6])])
def sort_sort.B31 : List Nat := [0, 1, 3, 0, 8, 24, 63, 127]
theorem sort_sort.tab31 : rtab .any (opsOf Tryd.f80 31) = sort_sort.T31 := by kernel_rfl
theorem sort_sort.bits31 : waitsOk sort_sort.T31.2 sort_sort.B31 = true := by kernel_rfl
set_option maxHeartbeats 8000000 in
set_option maxRecDepth 100000 in
theorem sort_sort.calls (k : Nat) : ∀ (A0 : Option Addr) (c0 : Nat) (l0 : List (S48)) (r : Int) (w : World) (hr0 : Kd.C k48 w A0 l0.length l0) (hc0 : l0.length ≤ c0) (h : sort_sort.f k l0 = some r),
    Calls Tryd.prog 80 #[.slice A0 l0.length c0] w fun e w' => e = .returned (.int .i64 r) ∧ Below w.heap.size w w' := by
  induction k using Nat.strongRecOn with
  | _ k ih =>
  intro A0 c0 l0 r w hr0 hc0 h
  cases k with
  | zero => exact absurd h (by simp [sort_sort.f])
  | succ k =>
  simp only [sort_sort.f] at h
  have HR0 := Aside0.mk hr0
  have HC0 := Aside0.mk hc0
  clear hr0 hc0
  have HB := Aside0.mk (Below.refl w.heap.size w)
  have H : ((row_Kids.f k l0).bind fun t239 => (sort_sort.l0 k l0 ([] : List Int) t239 (t239.length : Int) 0)) = some r := h
  clear h
  replace H := Option.bind_eq_some_iff.mp H
  obtain ⟨t239, A20, H⟩ := H
  replace H : (sort_sort.l0 k l0 ([] : List Int) t239 (t239.length : Int) 0) = some r := H
  have A2 := Aside0.mk A20
  clear A20
  have H' := Aside0.mk H
  clear H
  go_enter Tryd.func80, Tryd.ntmps80
  go_wp2_with (first | ((with_reducible refine gate_callee (f := 42) rfl ?_); refine goesL_ (some 8) rfl rfl Tryd.func42 (by kernel_rfl) rfl #[.slice A0 l0.length c0] rfl (by (try simp only [List.map_toArray, List.map_cons, List.map_nil]); first | done | rfl | (simp only [List.length_drop, List.length_take]; rfl)) ?_; (with_reducible refine (row_Kids.calls k _ _ l0 t239 _ ?side1 ?side2 A2.out).mono ?_); (case side1 => repeat (first | exact HR0.out | (with_reducible refine Kd.C_alloc ?_ _) | (with_reducible refine Kd.C_drewN ?_ _) | (with_reducible refine Kd.C_drew ?_))); (case side2 => exact HC0.out); rintro e w3 ⟨v240, rfl, ho0, hb⟩; refine ⟨_, rfl, ?_⟩; have n0_ := Aside0.mk (Kd.S_lower ho0 (below_size (by repeat (first | (with_reducible first | exact HB.out | apply below_alloc | apply pw_below_drewN | apply below_drew1) | exact HB.out)))); have n1_ := Aside0.mk (below_step (by repeat (first | (with_reducible first | exact HB.out | apply below_alloc | apply pw_below_drewN | apply below_drew1) | exact HB.out)) hb); clear HB; have HO241 := n0_; have HB := n1_; clear n0_ n1_; (try clear hb); (try clear hb2); (try clear hk); (try clear hi); (try clear ho0); obtain ⟨Ao4, co4, eo4⟩ := Kd.S_slice HO241.out; subst eo4))
  go_loopg [3, 10] k (fun kq v3 v10 w' => ∃ (x3_1 : List Int) (x10_1 : Int), v10 = .int .i64 x10_1 ∧ Aside0 (sort_sort.l0 kq l0 x3_1 t239 (t239.length : Int) x10_1 = some r) ∧ Aside0 (kq ≤ k) ∧ Aside0 (Kd.R (Kd.int .i64) 3 w' w.heap.size (fun _ => True) v3 x3_1) ∧ Aside0 (Kd.S (Kd.slice 48 k48) 51 w' w.heap.size (fun _ => True) (.slice Ao4 t239.length co4) t239) ∧ Aside0 (Below w.heap.size w w'))
  case atStart => exact ⟨(([] : List Int)), (0), (by first | rfl | (simp; done) | (simp [*]; done)), H', ⟨Nat.le_refl _⟩, ⟨by first | exact Kd.R_nil _ _ _ _ _ | exact Kd.N_nil _ _ _ _ _ | exact Kd.V_nil _ _ _ _ _ | exact Kd.Q_nil _ _ _ _ _ | exact Kd.S_nil _ _ _ _ _⟩, ⟨by (with_reducible repeat (first | apply Kd.S_alloc | apply Kd.S_drewN | apply Kd.S_drew)); exact HO241.out⟩, ⟨by repeat (first | (with_reducible first | exact HB.out | apply below_alloc | apply pw_below_drewN | apply below_drew1) | exact HB.out)⟩⟩
  case round =>
    clear H'
    try clear p2
    try clear c4
    obtain ⟨x3_1, x10_1, rfl, HA, HK1, HO_3, HO_8, HB⟩ := hrel
    cases gk with
    | zero => exact absurd HA.out (by simp [sort_sort.l0])
    | succ k1 =>
      have H := HA.out
      clear HA
      simp only [sort_sort.l0] at H
      by_cases c5 : x10_1 < (t239.length : Int)
      · rw [if_pos c5] at H
        have c5b0 : decide (x10_1 < (t239.length : Int)) = true := decide_eq_true c5
        clear c5
        by_cases c6 : 0 ≤ x10_1
        · rw [if_pos c6] at H
          have c6b0 : decide (0 ≤ x10_1) = true := decide_eq_true c6
          clear c6
          by_cases c7 : x10_1 < (t239.length : Int)
          · rw [if_pos c7] at H
            have c7b0 : decide (x10_1 < (t239.length : Int)) = true := decide_eq_true c7
            clear c7
            replace H := Option.bind_eq_some_iff.mp H
            obtain ⟨t243, A80, H⟩ := H
            replace H : (if t243 = 0 then (some 0) else (if x3_1.length < 17592186044416 then (sort_sort.l0 k1 l0 (x3_1 ++ [t243]) t239 (t239.length : Int) (wrap64 (x10_1 + 1))) else (none))) = some r := H
            have A8 := Aside0.mk A80
            clear A80
            by_cases c9 : t243 = 0
            · rw [if_pos c9] at H
              have c9b0 : (t243 == 0) = true := beq_iff_eq.mpr c9
              have c9b1 : (t243 != 0) = false := bne_eq_false_iff_eq.mpr c9
              clear c9
              obtain rfl := Option.some.inj H
              have p242 : 0 ≤ (x10_1 : Int) := of_decide_eq_true (by first | (with_reducible assumption) | assumption)
              have q242 : x10_1 < (t239.length : Int) := of_decide_eq_true (by first | (with_reducible assumption) | assumption)
              obtain ⟨ad242, A242_0, c242_0, e242, hx242_0, hl242_0, hi242_0⟩ := at_L9 (Kd.S_reads' HO_8.out).2.2 x10_1 p242 q242
              cases e242
              obtain ⟨ce242, hce242, hMe242, hcc242⟩ := Kd.S_get HO_8.out [] x10_1 p242 (by first | exact q242 | exact of_decide_eq_true (by first | (with_reducible assumption) | assumption) | (have e_ := (Kd.S_reads' HO_8.out).1; omega))
              obtain ⟨ve242_0, rfl, ge242_0⟩ := hMe242
              have hv242_0 := hcc242 0 _ rfl
              rw [Nat.add_zero, show ((Kd.slice 48 k48)).sz = 1 from rfl, Nat.mul_one] at hv242_0
              replace hv242_0 := Option.some.inj (hv242_0.symm.trans hx242_0)
              rw [hv242_0] at ge242_0
              have HL242_0 := Aside0.mk (show Kd.R k48 48 _ _ _ _ (rd_L9 t239 x10_1) from ge242_0)
              clear hv242_0 ge242_0
              clear hcc242 hce242
              have HR242_0 := Aside0.mk hi242_0
              have HC242_0 := Aside0.mk hl242_0
              clear hi242_0 hl242_0
              replace p242 := eq_true p242
              replace q242 := eq_true q242
              go_wp2_with (first | ((with_reducible refine gate_callee (f := 80) rfl ?_); refine goesL_ (some 15) rfl rfl Tryd.func80 (by kernel_rfl) rfl #[.slice A242_0 (rd_L9 t239 x10_1).length c242_0] rfl (by (try simp only [List.map_toArray, List.map_cons, List.map_nil]); first | done | rfl | (simp only [List.length_drop, List.length_take]; rfl)) ?_; (with_reducible refine (ih k1 (by have := HK1.out; omega) _ _ (rd_L9 t239 x10_1) t243 _ ?side1 ?side2 A8.out).mono ?_); (case side1 => repeat (first | exact (by repeat (first | (with_reducible exact HR242_0.out) | (with_reducible refine Kd.C_alloc ?_ _) | (with_reducible refine Kd.C_drewN ?_ _) | (with_reducible refine Kd.C_drew ?_) | exact HR242_0.out)) | (with_reducible refine Kd.C_alloc ?_ _) | (with_reducible refine Kd.C_drewN ?_ _) | (with_reducible refine Kd.C_drew ?_))); (case side2 => exact HC242_0.out); rintro e w10 ⟨rfl, hb⟩; refine ⟨_, rfl, ?_⟩; have n0_ := Aside0.mk (Kd.R_below (by (with_reducible repeat (first | apply Kd.R_alloc | apply Kd.R_drewN | apply Kd.R_drew)); exact HO_3.out) hb); have n1_ := Aside0.mk (Kd.S_below (by (with_reducible repeat (first | apply Kd.S_alloc | apply Kd.S_drewN | apply Kd.S_drew)); exact HO_8.out) hb); have n2_ := Aside0.mk (Kd.R_below (by (with_reducible repeat (first | apply Kd.R_alloc | apply Kd.R_drewN | apply Kd.R_drew)); exact HL242_0.out) hb); have n3_ := Aside0.mk (Kd.C_below (by repeat (first | (with_reducible exact HR242_0.out) | (with_reducible refine Kd.C_alloc ?_ _) | (with_reducible refine Kd.C_drewN ?_ _) | (with_reducible refine Kd.C_drew ?_) | exact HR242_0.out)) hb); have n4_ := Aside0.mk (below_step (by repeat (first | (with_reducible first | exact HB.out | apply below_alloc | apply pw_below_drewN | apply below_drew1) | exact HB.out)) hb); clear HO_3; clear HO_8; clear HL242_0; clear HR242_0; clear HB; have HO_3 := n0_; have HO_8 := n1_; have HL242_0 := n2_; have HR242_0 := n3_; have HB := n4_; clear n0_ n1_ n2_ n3_ n4_; (try clear hb); (try clear hb2); (try clear hk); (try clear hi)))
              go_ret
              exact ⟨by first | rfl | (simp [errW_none, errW_some] <;> rfl) | (simp [*, errW_none, errW_some] <;> rfl), by repeat (first | (with_reducible first | exact HB.out | apply below_alloc | apply pw_below_drewN | apply below_drew1) | exact HB.out)⟩
            · rw [if_neg c9] at H
              have c9b0 : (t243 == 0) = false := beq_eq_false_iff_ne.mpr c9
              have c9b1 : (t243 != 0) = true := bne_iff_ne.mpr c9
              by_cases c11 : x3_1.length < 17592186044416
              · rw [if_pos c11] at H
                have LMc11 := Aside0.mk c11
                clear c11
                obtain ⟨y244, hy244⟩ : ∃ y_ : List Int, y_ = (x3_1 ++ [t243]) := ⟨_, rfl⟩
                replace H : (sort_sort.l0 k1 l0 y244 t239 (t239.length : Int) (wrap64 (x10_1 + 1))) = some r := by first | (rw [hy244]; with_reducible exact H) | (have H2_ := (Option.bind_some _ _).symm.trans H; rw [hy244]; with_reducible exact H2_) | (have H2_ := (Option.bind_some _ _).symm.trans H; with_reducible exact H2_) | with_reducible exact H | (rw [hy244]; exact H) | exact H
                have Ny244 := Aside0.mk hy244
                clear hy244
                have H' := Aside0.mk H
                clear H
                have p242 : 0 ≤ (x10_1 : Int) := of_decide_eq_true (by first | (with_reducible assumption) | assumption)
                have q242 : x10_1 < (t239.length : Int) := of_decide_eq_true (by first | (with_reducible assumption) | assumption)
                obtain ⟨ad242, A242_0, c242_0, e242, hx242_0, hl242_0, hi242_0⟩ := at_L9 (Kd.S_reads' HO_8.out).2.2 x10_1 p242 q242
                cases e242
                obtain ⟨ce242, hce242, hMe242, hcc242⟩ := Kd.S_get HO_8.out [] x10_1 p242 (by first | exact q242 | exact of_decide_eq_true (by first | (with_reducible assumption) | assumption) | (have e_ := (Kd.S_reads' HO_8.out).1; omega))
                obtain ⟨ve242_0, rfl, ge242_0⟩ := hMe242
                have hv242_0 := hcc242 0 _ rfl
                rw [Nat.add_zero, show ((Kd.slice 48 k48)).sz = 1 from rfl, Nat.mul_one] at hv242_0
                replace hv242_0 := Option.some.inj (hv242_0.symm.trans hx242_0)
                rw [hv242_0] at ge242_0
                have HL242_0 := Aside0.mk (show Kd.R k48 48 _ _ _ _ (rd_L9 t239 x10_1) from ge242_0)
                clear hv242_0 ge242_0
                clear hcc242 hce242
                have HR242_0 := Aside0.mk hi242_0
                have HC242_0 := Aside0.mk hl242_0
                clear hi242_0 hl242_0
                replace p242 := eq_true p242
                replace q242 := eq_true q242
                go_wp2_with (first | ((with_reducible refine gate_callee (f := 80) rfl ?_); refine goesL_ (some 15) rfl rfl Tryd.func80 (by kernel_rfl) rfl #[.slice A242_0 (rd_L9 t239 x10_1).length c242_0] rfl (by (try simp only [List.map_toArray, List.map_cons, List.map_nil]); first | done | rfl | (simp only [List.length_drop, List.length_take]; rfl)) ?_; (with_reducible refine (ih k1 (by have := HK1.out; omega) _ _ (rd_L9 t239 x10_1) t243 _ ?side1 ?side2 A8.out).mono ?_); (case side1 => repeat (first | exact (by repeat (first | (with_reducible exact HR242_0.out) | (with_reducible refine Kd.C_alloc ?_ _) | (with_reducible refine Kd.C_drewN ?_ _) | (with_reducible refine Kd.C_drew ?_) | exact HR242_0.out)) | (with_reducible refine Kd.C_alloc ?_ _) | (with_reducible refine Kd.C_drewN ?_ _) | (with_reducible refine Kd.C_drew ?_))); (case side2 => exact HC242_0.out); rintro e w12 ⟨rfl, hb⟩; refine ⟨_, rfl, ?_⟩; have n0_ := Aside0.mk (Kd.R_below (by (with_reducible repeat (first | apply Kd.R_alloc | apply Kd.R_drewN | apply Kd.R_drew)); exact HO_3.out) hb); have n1_ := Aside0.mk (Kd.S_below (by (with_reducible repeat (first | apply Kd.S_alloc | apply Kd.S_drewN | apply Kd.S_drew)); exact HO_8.out) hb); have n2_ := Aside0.mk (Kd.R_below (by (with_reducible repeat (first | apply Kd.R_alloc | apply Kd.R_drewN | apply Kd.R_drew)); exact HL242_0.out) hb); have n3_ := Aside0.mk (Kd.C_below (by repeat (first | (with_reducible exact HR242_0.out) | (with_reducible refine Kd.C_alloc ?_ _) | (with_reducible refine Kd.C_drewN ?_ _) | (with_reducible refine Kd.C_drew ?_) | exact HR242_0.out)) hb); have n4_ := Aside0.mk (below_step (by repeat (first | (with_reducible first | exact HB.out | apply below_alloc | apply pw_below_drewN | apply below_drew1) | exact HB.out)) hb); clear HO_3; clear HO_8; clear HL242_0; clear HR242_0; clear HB; have HO_3 := n0_; have HO_8 := n1_; have HL242_0 := n2_; have HR242_0 := n3_; have HB := n4_; clear n0_ n1_ n2_ n3_ n4_; (try clear hb); (try clear hb2); (try clear hk); (try clear hi)) | ((with_reducible refine gate_builtin (b := .append) (xs := #[.tmp 18, .tmp 20]) rfl ?_); at_builtin; refine Kd.R_append (Kd.int .i64) (w0 := w) w.heap.size rfl (.tmp 18) (.tmp 20) 40 3 (.int .i64 0) 8 rfl Tryd.underlying40 info3 rfl (by decide) (by omega) u3 x3_1 t243 [.int .i64 t243] (fun _ => True) (fun _ => False) rfl rfl ?aP (fun _ hk => hk.elim) ?aF ?aO ?aB ?aS ?aL ?_; (case aP => exact rfl); (case aB => exact (by repeat (first | (with_reducible first | exact HB.out | apply below_alloc | apply pw_below_drewN | apply below_drew1) | exact HB.out))); (case aF => exact (fun _ _ => trivial)); (case aO => exact (by (with_reducible repeat (first | apply Kd.R_alloc | apply Kd.R_drewN | apply Kd.R_drew)); exact HO_3.out)); (case aS => exact (below_size (by repeat (first | (with_reducible first | exact HB.out | apply below_alloc | apply pw_below_drewN | apply below_drew1) | exact HB.out)))); (case aL => have := LMc11.out; omega); intro v245 w13 ho hb hg hat; rw [← Ny244.out] at ho; have n0_ := Aside0.mk (Kd.S_over' (by (with_reducible repeat (first | apply Kd.S_alloc | apply Kd.S_drewN | apply Kd.S_drew)); exact HO_8.out) (Kd.R_typed (by (with_reducible repeat (first | apply Kd.R_alloc | apply Kd.R_drewN | apply Kd.R_drew)); exact HO_3.out)) (by decide) hg); have n1_ := Aside0.mk (Kd.R_over' (by (with_reducible repeat (first | apply Kd.R_alloc | apply Kd.R_drewN | apply Kd.R_drew)); exact HL242_0.out) (Kd.R_typed (by (with_reducible repeat (first | apply Kd.R_alloc | apply Kd.R_drewN | apply Kd.R_drew)); exact HO_3.out)) (by decide) hg); have n2_ := Aside0.mk (hb); have n3_ := Aside0.mk (ho); clear HO_8; clear HL242_0; clear HB; clear HO_3; have HO_8 := n0_; have HL242_0 := n1_; have HB := n2_; have HO246 := n3_; clear n0_ n1_ n2_ n3_; clear ho hb hg hat))
                go_roundg k1
                case measure => have := HK1.out; omega
                case rel => exact ⟨(y244), (wrap64 (x10_1 + 1)), (by first | rfl | (simp; done) | (simp [*]; done)), H', ⟨by have := HK1.out; omega⟩, ⟨by (with_reducible repeat (first | apply Kd.R_alloc | apply Kd.R_drewN | apply Kd.R_drew)); exact HO246.out⟩, ⟨by (with_reducible repeat (first | apply Kd.S_alloc | apply Kd.S_drewN | apply Kd.S_drew)); exact HO_8.out⟩, ⟨by repeat (first | (with_reducible first | exact HB.out | apply below_alloc | apply pw_below_drewN | apply below_drew1) | exact HB.out)⟩⟩
              · rw [if_neg c11] at H
                exact absurd H (by simp)
          · rw [if_neg c7] at H
            exact absurd H (by simp)
        · rw [if_neg c6] at H
          exact absurd H (by simp)
      · rw [if_neg c5] at H
        have c5b0 : decide (x10_1 < (t239.length : Int)) = false := decide_eq_false c5
        clear c5
        by_cases c14 : 0 < (l0.length : Int)
        · rw [if_pos c14] at H
          have c14b0 : decide (0 < (l0.length : Int)) = true := decide_eq_true c14
          have c14b1 : decide (0 < l0.length) = true := decide_eq_true (by omega)
          clear c14
          have HC15 := Aside0.mk H
          clear H
          have p247 : 0 ≤ (0 : Int) := (by omega)
          have q247 : 0 < (l0.length : Int) := of_decide_eq_true (by first | (with_reducible assumption) | assumption)
          obtain ⟨ad247, e247, hx247_0, hx247_1, hx247_2⟩ := at_T48 HR0.out 0 p247 q247
          cases e247
          have qi247 : (0 < l0.length) = True := eq_true (by omega)
          (try rw [show ((0 : Int)).toNat = 0 from rfl] at hx247_0)
          (try rw [show 0 * 3 = 0 from rfl] at hx247_0)
          (try rw [Addr.add_zero'] at hx247_0)
          (try rw [show ((0 : Int)).toNat = 0 from rfl] at hx247_1)
          (try rw [show 0 * 3 = 0 from rfl] at hx247_1)
          (try rw [Addr.add_zero'] at hx247_1)
          (try rw [show ((0 : Int)).toNat = 0 from rfl] at hx247_2)
          (try rw [show 0 * 3 = 0 from rfl] at hx247_2)
          (try rw [Addr.add_zero'] at hx247_2)
          replace hx247_0 := (HB.out.cell (World.block_lt_of_cell? w _ hx247_0)).trans hx247_0
          replace hx247_1 := (HB.out.cell (World.block_lt_of_cell? w _ hx247_1)).trans hx247_1
          replace hx247_2 := (HB.out.cell (World.block_lt_of_cell? w _ hx247_2)).trans hx247_2
          replace p247 := eq_true p247
          replace q247 := eq_true q247
          go_upto_if 27 with (fail)
          go_cut [27] (fun v27 wc => ∃ (kq : Nat) (x27_14 : Bool), v27 = .bool x27_14 ∧ Aside0 (sort_sort.j1 kq x3_1 ((rd_T48 l0 0).f0) x27_14 = some r) ∧ Aside0 (kq ≤ k1) ∧ Aside0 (Kd.R (Kd.int .i64) 3 wc w.heap.size (fun _ => True) u3 x3_1) ∧ Aside0 (Below w.heap.size w wc))
          case first =>
            have H := HC15.out
            clear HC15
            by_cases c16 : ((rd_T48 l0 0).f0) = 1
            · rw [if_pos c16] at H
              have c16b0 : (((rd_T48 l0 0).f0) == 1) = true := beq_iff_eq.mpr c16
              have c16b1 : (((rd_T48 l0 0).f0) != 1) = false := bne_eq_false_iff_eq.mpr c16
              clear c16
              (first | rw [c16b0] | (simp only [i64_w, i32_w]; rw [c16b0]) | skip)
              have H' := Aside0.mk H
              clear H
              go_wp2
              go_meet
              case rel => exact ⟨_, ((((rd_T48 l0 0).f0) == 1)), (by first | rfl | (simp; done) | (simp [*]; done)), H', ⟨by have := HK1.out; first | omega | exact Nat.le_refl _⟩, ⟨by (with_reducible repeat (first | apply Kd.R_alloc | apply Kd.R_drewN | apply Kd.R_drew)); exact HO_3.out⟩, ⟨by repeat (first | (with_reducible first | exact HB.out | apply below_alloc | apply pw_below_drewN | apply below_drew1) | exact HB.out)⟩⟩
            · rw [if_neg c16] at H
              have c16b0 : (((rd_T48 l0 0).f0) == 1) = false := beq_eq_false_iff_ne.mpr c16
              have c16b1 : (((rd_T48 l0 0).f0) != 1) = true := bne_iff_ne.mpr c16
              (first | rw [c16b0] | (simp only [i64_w, i32_w]; rw [c16b0]) | skip)
              by_cases c17 : ((rd_T48 l0 0).f0) = 2
              · rw [if_pos c17] at H
                have c17b0 : (((rd_T48 l0 0).f0) == 2) = true := beq_iff_eq.mpr c17
                have c17b1 : (((rd_T48 l0 0).f0) != 2) = false := bne_eq_false_iff_eq.mpr c17
                clear c17
                have H' := Aside0.mk H
                clear H
                go_wp2
                go_meet
                case rel => exact ⟨_, ((((rd_T48 l0 0).f0) == 2)), (by first | rfl | (simp; done) | (simp [*]; done)), H', ⟨by have := HK1.out; first | omega | exact Nat.le_refl _⟩, ⟨by (with_reducible repeat (first | apply Kd.R_alloc | apply Kd.R_drewN | apply Kd.R_drew)); exact HO_3.out⟩, ⟨by repeat (first | (with_reducible first | exact HB.out | apply below_alloc | apply pw_below_drewN | apply below_drew1) | exact HB.out)⟩⟩
              · rw [if_neg c17] at H
                have c17b0 : (((rd_T48 l0 0).f0) == 2) = false := beq_eq_false_iff_ne.mpr c17
                have c17b1 : (((rd_T48 l0 0).f0) != 2) = true := bne_iff_ne.mpr c17
                by_cases c18 : ((rd_T48 l0 0).f0) = 3
                · rw [if_pos c18] at H
                  have c18b0 : (((rd_T48 l0 0).f0) == 3) = true := beq_iff_eq.mpr c18
                  have c18b1 : (((rd_T48 l0 0).f0) != 3) = false := bne_eq_false_iff_eq.mpr c18
                  clear c18
                  have H' := Aside0.mk H
                  clear H
                  go_wp2
                  go_meet
                  case rel => exact ⟨_, ((((rd_T48 l0 0).f0) == 3)), (by first | rfl | (simp; done) | (simp [*]; done)), H', ⟨by have := HK1.out; first | omega | exact Nat.le_refl _⟩, ⟨by (with_reducible repeat (first | apply Kd.R_alloc | apply Kd.R_drewN | apply Kd.R_drew)); exact HO_3.out⟩, ⟨by repeat (first | (with_reducible first | exact HB.out | apply below_alloc | apply pw_below_drewN | apply below_drew1) | exact HB.out)⟩⟩
                · rw [if_neg c18] at H
                  have c18b0 : (((rd_T48 l0 0).f0) == 3) = false := beq_eq_false_iff_ne.mpr c18
                  have c18b1 : (((rd_T48 l0 0).f0) != 3) = true := bne_iff_ne.mpr c18
                  have H' := Aside0.mk H
                  clear H
                  go_wp2
                  go_meet
                  case rel => exact ⟨_, ((((rd_T48 l0 0).f0) == 4)), (by first | rfl | (simp; done) | (simp [*]; done)), H', ⟨by have := HK1.out; first | omega | exact Nat.le_refl _⟩, ⟨by (with_reducible repeat (first | apply Kd.R_alloc | apply Kd.R_drewN | apply Kd.R_drew)); exact HO_3.out⟩, ⟨by repeat (first | (with_reducible first | exact HB.out | apply below_alloc | apply pw_below_drewN | apply below_drew1) | exact HB.out)⟩⟩
          case rest =>
            clear HC15
            try clear c1
            try clear c2
            try clear p2
            try clear q2
            try clear hx2
            try clear qi2
            try clear c4
            try clear c5
            try clear c5b0
            try clear c6
            try clear c6b0
            try clear p6
            try clear c7
            try clear c7b0
            try clear c8
            try clear c9
            try clear c9b0
            try clear c9b1
            try clear c11
            try clear c14
            try clear c14b0
            try clear c14b1
            try clear c16
            try clear c16b0
            try clear c16b1
            try clear c17
            try clear c17b0
            try clear c17b1
            try clear c18
            try clear c18b0
            try clear c18b1
            try clear hx242_0
            try clear hx247_0
            try clear hx247_1
            try clear hx247_2
            try clear p2
            try clear p242
            try clear p247
            try clear q242
            try clear q247
            obtain ⟨kq, x27_14, rfl, HA, HJ14, HO_3, HB⟩ := hcut
            cases kq with
            | zero => exact absurd HA.out (by simp [sort_sort.j1])
            | succ kj14 =>
              have H := HA.out
              clear HA
              simp only [sort_sort.j1] at H
              by_cases c19 : x27_14 = true
              · subst c19
                have H1 : (some 1) = some r := by rw [if_pos rfl] at H; exact H
                clear H
                have H := H1
                clear H1
                obtain rfl := Option.some.inj H
                go_wp2
                go_ret
                exact ⟨by first | rfl | (simp [errW_none, errW_some] <;> rfl) | (simp [*, errW_none, errW_some] <;> rfl), by repeat (first | (with_reducible first | exact HB.out | apply below_alloc | apply pw_below_drewN | apply below_drew1) | exact HB.out)⟩
              · replace c19 := Bool.eq_false_iff.mpr c19
                subst c19
                have H1 : (if ((rd_T48 l0 0).f0) = 11 then (some 3) else (if ((rd_T48 l0 0).f0) = 6 then (if 0 < (x3_1.length : Int) then (if (rd x3_1 0) > 2 then (sort_sort.j2 kj14 x3_1 true) else (if 1 < (x3_1.length : Int) then (sort_sort.j2 kj14 x3_1 (decide ((rd x3_1 1) > 2))) else (none))) else (none)) else (if ((rd_T48 l0 0).f0) = 7 then (if 0 < (x3_1.length : Int) then (if 1 < (x3_1.length : Int) then ((sort_both.f (rd x3_1 0) (rd x3_1 1)).bind fun t250 => (some t250)) else (none)) else (none)) else (if ((rd_T48 l0 0).f0) = 5 then (if 0 < (x3_1.length : Int) then (if 1 < (x3_1.length : Int) then ((sort_behind.f (rd x3_1 0) (rd x3_1 1) 1).bind fun t253 => ((sort_behind.f (rd x3_1 0) (rd x3_1 1) 2).bind fun t256 => (some (mx t253 t256)))) else (none)) else (none)) else (if ((rd_T48 l0 0).f0) = 8 then (if 0 < (x3_1.length : Int) then (if 1 < (x3_1.length : Int) then ((sort_behind.f (rd x3_1 0) (rd x3_1 1) 1).bind fun t271 => (some t271)) else (none)) else (none)) else (if ((rd_T48 l0 0).f0) = 9 then (if 0 < (x3_1.length : Int) then ((sort_on.f (rd x3_1 0)).bind fun t258 => (if t258 = 4 then (some (wrap64 ((rd x3_1 0) - 1))) else (some 0))) else (none)) else (if ((rd_T48 l0 0).f0) = 10 then (if 0 < (x3_1.length : Int) then (if (rd x3_1 0) = 1 then (if 1 < (x3_1.length : Int) then (sort_sort.j3 kj14 ((rd x3_1 1) == 1)) else (none)) else (sort_sort.j3 kj14 false)) else (none)) else (if ((rd_T48 l0 0).f0) = 12 then (if 0 < (x3_1.length : Int) then ((sort_on.f (rd x3_1 0)).bind fun t261 => (if t261 = 3 then (if 1 < (x3_1.length : Int) then (if (rd x3_1 1) = 1 then (some 4) else (some 0)) else (none)) else (some 0))) else (none)) else (if ((rd_T48 l0 0).f0) = 13 then (if 0 < (x3_1.length : Int) then ((sort_on.f (rd x3_1 0)).bind fun t275 => (if t275 = 4 then (if 1 < (x3_1.length : Int) then (sort_sort.j4 kj14 ((rd x3_1 1) == 1)) else (none)) else (sort_sort.j4 kj14 false))) else (none)) else (if ((rd_T48 l0 0).f0) = 14 then (if 0 < (x3_1.length : Int) then (if (rd x3_1 0) = 1 then (some 4) else (some 0)) else (none)) else (some 0))))))))))) = some r := by rw [if_neg (show ¬ (false = true) by decide)] at H; exact H
                clear H
                have H := H1
                clear H1
                by_cases c20 : ((rd_T48 l0 0).f0) = 11
                · rw [if_pos c20] at H
                  have c20b0 : (((rd_T48 l0 0).f0) == 11) = true := beq_iff_eq.mpr c20
                  have c20b1 : (((rd_T48 l0 0).f0) != 11) = false := bne_eq_false_iff_eq.mpr c20
                  clear c20
                  obtain rfl := Option.some.inj H
                  go_wp2
                  go_ret
                  exact ⟨by first | rfl | (simp [errW_none, errW_some] <;> rfl) | (simp [*, errW_none, errW_some] <;> rfl), by repeat (first | (with_reducible first | exact HB.out | apply below_alloc | apply pw_below_drewN | apply below_drew1) | exact HB.out)⟩
                · rw [if_neg c20] at H
                  have c20b0 : (((rd_T48 l0 0).f0) == 11) = false := beq_eq_false_iff_ne.mpr c20
                  have c20b1 : (((rd_T48 l0 0).f0) != 11) = true := bne_iff_ne.mpr c20
                  by_cases c21 : ((rd_T48 l0 0).f0) = 6
                  · rw [if_pos c21] at H
                    have c21b0 : (((rd_T48 l0 0).f0) == 6) = true := beq_iff_eq.mpr c21
                    have c21b1 : (((rd_T48 l0 0).f0) != 6) = false := bne_eq_false_iff_eq.mpr c21
                    clear c21
                    have HC22 := Aside0.mk H
                    clear H
                    go_upto_region 27 with (fail)
                    go_cut [61] (fun v61 wc => ∃ (kq : Nat) (x61_21 : Bool), v61 = .bool x61_21 ∧ Aside0 (sort_sort.j2 kq x3_1 x61_21 = some r) ∧ Aside0 (kq ≤ kj14) ∧ Aside0 (Kd.R (Kd.int .i64) 3 wc w.heap.size (fun _ => True) u3 x3_1) ∧ Aside0 (Below w.heap.size w wc))
                    case first =>
                      have H := HC22.out
                      clear HC22
                      by_cases c23 : 0 < (x3_1.length : Int)
                      · rw [if_pos c23] at H
                        have c23b0 : decide (0 < (x3_1.length : Int)) = true := decide_eq_true c23
                        have c23b1 : decide (0 < x3_1.length) = true := decide_eq_true (by omega)
                        clear c23
                        (first | rw [c23b0] | (simp only [i64_w, i32_w]; rw [c23b0]) | skip)
                        by_cases c24 : (rd x3_1 0) > 2
                        · rw [if_pos c24] at H
                          have c24b0 : decide (2 < (rd x3_1 0)) = true := decide_eq_true c24
                          clear c24
                          have H' := Aside0.mk H
                          clear H
                          obtain ⟨Ao25, co25, eo25⟩ := Kd.R_slice HO_3.out
                          subst eo25
                          have p264 : 0 ≤ (0 : Int) := (by omega)
                          have q264 : 0 < (x3_1.length : Int) := of_decide_eq_true (by first | (with_reducible assumption) | assumption)
                          obtain ⟨ad264, e264, hx264_0⟩ := Kd.at_int (Kd.R_reads' HO_3.out).2.2 0 p264 q264
                          cases e264
                          have qi264 : (0 < x3_1.length) = True := eq_true (by omega)
                          (try rw [show ((0 : Int)).toNat = 0 from rfl] at hx264_0)
                          (try rw [Addr.add_zero'] at hx264_0)
                          replace p264 := eq_true p264
                          replace q264 := eq_true q264
                          go_wp2
                          go_meet
                          case rel => exact ⟨_, (true), (by first | rfl | (simp; done) | (simp [*]; done)), H', ⟨by have := HK1.out; have := HJ14.out; first | omega | exact Nat.le_refl _⟩, ⟨by (with_reducible repeat (first | apply Kd.R_alloc | apply Kd.R_drewN | apply Kd.R_drew)); exact HO_3.out⟩, ⟨by repeat (first | (with_reducible first | exact HB.out | apply below_alloc | apply pw_below_drewN | apply below_drew1) | exact HB.out)⟩⟩
                        · rw [if_neg c24] at H
                          have c24b0 : decide (2 < (rd x3_1 0)) = false := decide_eq_false c24
                          clear c24
                          by_cases c26 : 1 < (x3_1.length : Int)
                          · rw [if_pos c26] at H
                            have c26b0 : decide (1 < (x3_1.length : Int)) = true := decide_eq_true c26
                            have c26b1 : decide (1 < x3_1.length) = true := decide_eq_true (by omega)
                            clear c26
                            have H' := Aside0.mk H
                            clear H
                            obtain ⟨Ao27, co27, eo27⟩ := Kd.R_slice HO_3.out
                            subst eo27
                            have p264 : 0 ≤ (0 : Int) := (by omega)
                            have q264 : 0 < (x3_1.length : Int) := of_decide_eq_true (by first | (with_reducible assumption) | assumption)
                            obtain ⟨ad264, e264, hx264_0⟩ := Kd.at_int (Kd.R_reads' HO_3.out).2.2 0 p264 q264
                            cases e264
                            have qi264 : (0 < x3_1.length) = True := eq_true (by omega)
                            (try rw [show ((0 : Int)).toNat = 0 from rfl] at hx264_0)
                            (try rw [Addr.add_zero'] at hx264_0)
                            replace p264 := eq_true p264
                            replace q264 := eq_true q264
                            have p265 : 0 ≤ (1 : Int) := (by omega)
                            have q265 : 1 < (x3_1.length : Int) := of_decide_eq_true (by first | (with_reducible assumption) | assumption)
                            obtain ⟨ad265, e265, hx265_0⟩ := Kd.at_int (Kd.R_reads' HO_3.out).2.2 1 p265 q265
                            obtain rfl : ad264 = ad265 := (by injection e265)
                            (try simp only [show (1 : Int).toNat = 1 from rfl, Nat.reduceMul, Nat.reduceEqDiff, Go.Addr.add, ↓reduceIte] at hx265_0)
                            have qi265 : (1 < x3_1.length) = True := eq_true (by omega)
                            (try rw [show ((1 : Int)).toNat = 1 from rfl] at hx265_0)
                            replace p265 := eq_true p265
                            replace q265 := eq_true q265
                            go_wp2
                            go_meet
                            case rel => exact ⟨_, (decide ((rd x3_1 1) > 2)), (by first | rfl | (simp; done) | (simp [*]; done)), H', ⟨by have := HK1.out; have := HJ14.out; first | omega | exact Nat.le_refl _⟩, ⟨by (with_reducible repeat (first | apply Kd.R_alloc | apply Kd.R_drewN | apply Kd.R_drew)); exact HO_3.out⟩, ⟨by repeat (first | (with_reducible first | exact HB.out | apply below_alloc | apply pw_below_drewN | apply below_drew1) | exact HB.out)⟩⟩
                          · rw [if_neg c26] at H
                            exact absurd H (by simp)
                      · rw [if_neg c23] at H
                        exact absurd H (by simp)
                    case rest =>
                      clear HC22
                      try clear c1
                      try clear c2
                      try clear p2
                      try clear q2
                      try clear hx2
                      try clear qi2
                      try clear c4
                      try clear c5
                      try clear c5b0
                      try clear c6
                      try clear c6b0
                      try clear p6
                      try clear c7
                      try clear c7b0
                      try clear c8
                      try clear c9
                      try clear c9b0
                      try clear c9b1
                      try clear c11
                      try clear c14
                      try clear c14b0
                      try clear c14b1
                      try clear c16
                      try clear c16b0
                      try clear c16b1
                      try clear c17
                      try clear c17b0
                      try clear c17b1
                      try clear c18
                      try clear c18b0
                      try clear c18b1
                      try clear c19
                      try clear c20
                      try clear c20b0
                      try clear c20b1
                      try clear c21
                      try clear c21b0
                      try clear c21b1
                      try clear c23
                      try clear c23b0
                      try clear c23b1
                      try clear c24
                      try clear c24b0
                      try clear p24
                      try clear q24
                      try clear hx24
                      try clear qi24
                      try clear c26
                      try clear c26b0
                      try clear c26b1
                      try clear p26
                      try clear q26
                      try clear hx26
                      try clear qi26
                      try clear hx242_0
                      try clear hx247_0
                      try clear hx247_1
                      try clear hx247_2
                      try clear hx264_0
                      try clear hx265_0
                      try clear p2
                      try clear p242
                      try clear p247
                      try clear p264
                      try clear p265
                      try clear p6
                      try clear q2
                      try clear q242
                      try clear q247
                      try clear q264
                      try clear q265
                      obtain ⟨kq, x61_21, rfl, HA, HJ21, HO_3, HB⟩ := hcut
                      cases kq with
                      | zero => exact absurd HA.out (by simp [sort_sort.j2])
                      | succ kj21 =>
                        have H := HA.out
                        clear HA
                        simp only [sort_sort.j2] at H
                        by_cases c28 : x61_21 = true
                        · subst c28
                          have H1 : (some 0) = some r := by rw [if_pos rfl] at H; exact H
                          clear H
                          have H := H1
                          clear H1
                          obtain rfl := Option.some.inj H
                          go_wp2
                          go_ret
                          exact ⟨by first | rfl | (simp [errW_none, errW_some] <;> rfl) | (simp [*, errW_none, errW_some] <;> rfl), by repeat (first | (with_reducible first | exact HB.out | apply below_alloc | apply pw_below_drewN | apply below_drew1) | exact HB.out)⟩
                        · replace c28 := Bool.eq_false_iff.mpr c28
                          subst c28
                          have H1 : (if 0 < (x3_1.length : Int) then (if 1 < (x3_1.length : Int) then ((sort_both.f (rd x3_1 0) (rd x3_1 1)).bind fun t268 => (some t268)) else (none)) else (none)) = some r := by rw [if_neg (show ¬ (false = true) by decide)] at H; exact H
                          clear H
                          have H := H1
                          clear H1
                          by_cases c29 : 0 < (x3_1.length : Int)
                          · rw [if_pos c29] at H
                            have c29b0 : decide (0 < (x3_1.length : Int)) = true := decide_eq_true c29
                            have c29b1 : decide (0 < x3_1.length) = true := decide_eq_true (by omega)
                            clear c29
                            by_cases c30 : 1 < (x3_1.length : Int)
                            · rw [if_pos c30] at H
                              have c30b0 : decide (1 < (x3_1.length : Int)) = true := decide_eq_true c30
                              have c30b1 : decide (1 < x3_1.length) = true := decide_eq_true (by omega)
                              clear c30
                              replace H := Option.bind_eq_some_iff.mp H
                              obtain ⟨t268, A310, H⟩ := H
                              replace H : (some t268) = some r := H
                              have A31 := Aside0.mk A310
                              clear A310
                              obtain rfl := Option.some.inj H
                              try go_wp2
                              have n0_ := Aside0.mk (Kd.R_drew HO_3.out)
                              have n1_ := Aside0.mk (below_drew1 HB.out)
                              clear HO_3
                              clear HB
                              have HO_3 := n0_
                              have HB := n1_
                              clear n0_ n1_
                              obtain ⟨Ao33, co33, eo33⟩ := Kd.R_slice HO_3.out
                              (first | subst eo33 | (injection eo33 with f1_ f2_ f3_; have f4_ := f1_.symm; have f5_ := f3_.symm; clear f1_ f2_ f3_; subst f4_; subst f5_))
                              have p266 : 0 ≤ (0 : Int) := (by omega)
                              have q266 : 0 < (x3_1.length : Int) := of_decide_eq_true (by first | (with_reducible assumption) | assumption)
                              obtain ⟨ad266, e266, hx266_0⟩ := Kd.at_int (Kd.R_reads' HO_3.out).2.2 0 p266 q266
                              cases e266
                              have qi266 : (0 < x3_1.length) = True := eq_true (by omega)
                              (try rw [show ((0 : Int)).toNat = 0 from rfl] at hx266_0)
                              (try rw [Addr.add_zero'] at hx266_0)
                              replace p266 := eq_true p266
                              replace q266 := eq_true q266
                              have p267 : 0 ≤ (1 : Int) := (by omega)
                              have q267 : 1 < (x3_1.length : Int) := of_decide_eq_true (by first | (with_reducible assumption) | assumption)
                              obtain ⟨ad267, e267, hx267_0⟩ := Kd.at_int (Kd.R_reads' HO_3.out).2.2 1 p267 q267
                              obtain rfl : ad266 = ad267 := (by injection e267)
                              (try simp only [show (1 : Int).toNat = 1 from rfl, Nat.reduceMul, Nat.reduceEqDiff, Go.Addr.add, ↓reduceIte] at hx267_0)
                              have qi267 : (1 < x3_1.length) = True := eq_true (by omega)
                              (try rw [show ((1 : Int)).toNat = 1 from rfl] at hx267_0)
                              replace p267 := eq_true p267
                              replace q267 := eq_true q267
                              refine start_ (n := 8) (S := fun w' => w'.cell? ad266 = some (.int .i64 (rd x3_1 0)) ∧ w'.cell? ⟨ad266.block, ad266.off + 1, none⟩ = some (.int .i64 (rd x3_1 1))) (ds := []) #[false, false, false, false, false, false, false, false] (by kernel_rfl) rfl rfl ⟨hx266_0, hx267_0⟩ (fun hHeld => ?_); refine with_tabW sort_sort.tab29 sort_sort.bits29 (fun HT_ HW_ => ?_)
                              generalize wc.drew = w32 at HO_3 HB hx266_0 hx267_0 hHeld ⊢
                              refine pure_ (i := 0) (N := some 62) (v := ?_) (a' := ?_) #[true, false, false, false, false, false, false, false] rfl rfl (any_of HT_.out (by kernel_rfl)) (fun _ _ _ h => h) (Or.inl ⟨by rfl, ?_⟩) ?_ ?_
                              rotate_left
                              · intro w'
                                go_simp
                                with_reducible rfl
                              rotate_left
                              · simp only [Act.put, List.setIfInBounds_toArray, List.set_cons_zero, List.set_cons_succ, i64_w, i32_w]
                                rfl
                              refine pure_ (i := 1) (N := some 63) (v := ?_) (a' := ?_) #[true, true, false, false, false, false, false, false] rfl rfl (any_of HT_.out (by kernel_rfl)) (fun _ _ _ h => h) (Or.inl ⟨by rfl, ?_⟩) ?_ ?_
                              rotate_left
                              · intro w'
                                go_simp
                                with_reducible rfl
                              rotate_left
                              · simp only [Act.put, List.setIfInBounds_toArray, List.set_cons_zero, List.set_cons_succ, i64_w, i32_w]
                                rfl
                              refine pure_ (i := 3) (N := some 65) (v := ?_) (a' := ?_) #[true, true, false, true, false, false, false, false] rfl rfl (any_of HT_.out (by kernel_rfl)) (fun _ _ _ h => h) (Or.inl ⟨by rfl, ?_⟩) ?_ ?_
                              rotate_left
                              · intro w'
                                go_simp
                                with_reducible rfl
                              rotate_left
                              · simp only [Act.put, List.setIfInBounds_toArray, List.set_cons_zero, List.set_cons_succ, i64_w, i32_w]
                                rfl
                              refine pure_ (i := 4) (N := some 66) (v := ?_) (a' := ?_) #[true, true, false, true, true, false, false, false] rfl rfl (any_of HT_.out (by kernel_rfl)) (fun _ _ _ h => h) (Or.inl ⟨by rfl, ?_⟩) ?_ ?_
                              rotate_left
                              · intro w'
                                go_simp
                                with_reducible rfl
                              rotate_left
                              · simp only [Act.put, List.setIfInBounds_toArray, List.set_cons_zero, List.set_cons_succ, i64_w, i32_w]
                                rfl
                              refine take_ (i := 2) (N := some 64) (v := ?_) (a' := ?_) #[true, true, true, true, true, false, false, false] rfl rfl (take_ofW HT_.out HW_.out (by kernel_rfl)) (fun _ _ _ h => h) (Or.inl ⟨by rfl, ?_⟩) hHeld ?_ ?_
                              rotate_left
                              · rintro w' ⟨s0, s1⟩
                                go_simp
                                with_reducible rfl
                              rotate_left
                              · simp only [Act.put, List.setIfInBounds_toArray, List.set_cons_zero, List.set_cons_succ, i64_w, i32_w]
                                rfl
                              refine take_ (i := 5) (N := some 67) (v := ?_) (a' := ?_) #[true, true, true, true, true, true, false, false] rfl rfl (take_ofW HT_.out HW_.out (by kernel_rfl)) (fun _ _ _ h => h) (Or.inl ⟨by rfl, ?_⟩) hHeld ?_ ?_
                              rotate_left
                              · rintro w' ⟨s0, s1⟩
                                go_simp
                                with_reducible rfl
                              rotate_left
                              · simp only [Act.put, List.setIfInBounds_toArray, List.set_cons_zero, List.set_cons_succ, i64_w, i32_w]
                                rfl
                              refine one_ (i := 6) (N := some 68) #[true, true, true, true, true, true, true, false] rfl rfl (one_of HT_.out (by kernel_rfl)) (by decide) (fun K hK => ?_)
                              refine goes_ Tryd.func95 (by kernel_rfl) rfl #[.int .i64 (rd x3_1 0), .int .i64 (rd x3_1 1)] (by rfl) rfl rfl (by (try simp only [List.map_toArray, List.map_cons, List.map_nil]); first | done | rfl | (simp only [List.length_drop, List.length_take]; rfl)) ?_
                              with_reducible refine (sort_both.calls (rd x3_1 0) (rd x3_1 1) t268 _ A31.out).mono ?_
                              rintro e w34 ⟨rfl, hb⟩
                              have HS0_ := (hb.cell (World.block_lt_of_cell? _ _ (hHeld.1))).trans (hHeld.1)
                              have HS1_ := (hb.cell (World.block_lt_of_cell? _ _ (hHeld.2))).trans (hHeld.2)
                              refine ⟨_, rfl, ?_⟩
                              have n0_ := Aside0.mk (Kd.R_below (by (with_reducible repeat (first | apply Kd.R_alloc | apply Kd.R_drewN | apply Kd.R_drew)); exact HO_3.out) hb)
                              have n1_ := Aside0.mk (below_step (by repeat (first | (with_reducible first | exact HB.out | apply below_alloc | apply pw_below_drewN | apply below_drew1) | exact HB.out)) hb)
                              clear HO_3
                              clear HB
                              have HO_3 := n0_
                              have HB := n1_
                              clear n0_ n1_
                              (try clear hb)
                              (try clear hb2)
                              (try clear hk)
                              (try clear hi)
                              refine hK.out _ _ ⟨HS0_, HS1_⟩ (fun hHeld => ?_)
                              clear hK K
                              refine norm_ (a' := ?_) ?_ ?_
                              rotate_left
                              · show Act.put _ (some 68) _ = _
                                simp only [Act.put, List.setIfInBounds_toArray, List.set_cons_zero, List.set_cons_succ, i64_w, i32_w]
                                rfl
                              refine pure_ (i := 7) (N := some 2) (v := ?_) (a' := ?_) #[true, true, true, true, true, true, true, true] rfl rfl (any_of HT_.out (by kernel_rfl)) (fun _ _ _ h => h) (Or.inl ⟨by rfl, ?_⟩) ?_ ?_
                              rotate_left
                              · intro w'
                                go_simp
                                with_reducible rfl
                              rotate_left
                              · simp only [Act.put, List.setIfInBounds_toArray, List.set_cons_zero, List.set_cons_succ, i64_w, i32_w]
                                rfl
                              refine done_ (done_of HT_.out (by kernel_rfl)) ?_
                              try go_wp2
                              go_ret
                              exact ⟨by first | rfl | (simp [errW_none, errW_some] <;> rfl) | (simp [*, errW_none, errW_some] <;> rfl), by repeat (first | (with_reducible first | exact HB.out | apply below_alloc | apply pw_below_drewN | apply below_drew1) | exact HB.out)⟩
                            · rw [if_neg c30] at H
                              exact absurd H (by simp)
                          · rw [if_neg c29] at H
                            exact absurd H (by simp)
                  · rw [if_neg c21] at H
                    have c21b0 : (((rd_T48 l0 0).f0) == 6) = false := beq_eq_false_iff_ne.mpr c21
                    have c21b1 : (((rd_T48 l0 0).f0) != 6) = true := bne_iff_ne.mpr c21
                    by_cases c35 : ((rd_T48 l0 0).f0) = 7
                    · rw [if_pos c35] at H
                      have c35b0 : (((rd_T48 l0 0).f0) == 7) = true := beq_iff_eq.mpr c35
                      have c35b1 : (((rd_T48 l0 0).f0) != 7) = false := bne_eq_false_iff_eq.mpr c35
                      clear c35
                      by_cases c36 : 0 < (x3_1.length : Int)
                      · rw [if_pos c36] at H
                        have c36b0 : decide (0 < (x3_1.length : Int)) = true := decide_eq_true c36
                        have c36b1 : decide (0 < x3_1.length) = true := decide_eq_true (by omega)
                        clear c36
                        by_cases c37 : 1 < (x3_1.length : Int)
                        · rw [if_pos c37] at H
                          have c37b0 : decide (1 < (x3_1.length : Int)) = true := decide_eq_true c37
                          have c37b1 : decide (1 < x3_1.length) = true := decide_eq_true (by omega)
                          clear c37
                          replace H := Option.bind_eq_some_iff.mp H
                          obtain ⟨t250, A380, H⟩ := H
                          replace H : (some t250) = some r := H
                          have A38 := Aside0.mk A380
                          clear A380
                          obtain rfl := Option.some.inj H
                          try go_wp2
                          have n0_ := Aside0.mk (Kd.R_drew HO_3.out)
                          have n1_ := Aside0.mk (below_drew1 HB.out)
                          clear HO_3
                          clear HB
                          have HO_3 := n0_
                          have HB := n1_
                          clear n0_ n1_
                          obtain ⟨Ao40, co40, eo40⟩ := Kd.R_slice HO_3.out
                          (first | subst eo40 | (injection eo40 with f1_ f2_ f3_; have f4_ := f1_.symm; have f5_ := f3_.symm; clear f1_ f2_ f3_; subst f4_; subst f5_))
                          have p248 : 0 ≤ (0 : Int) := (by omega)
                          have q248 : 0 < (x3_1.length : Int) := of_decide_eq_true (by first | (with_reducible assumption) | assumption)
                          obtain ⟨ad248, e248, hx248_0⟩ := Kd.at_int (Kd.R_reads' HO_3.out).2.2 0 p248 q248
                          cases e248
                          have qi248 : (0 < x3_1.length) = True := eq_true (by omega)
                          (try rw [show ((0 : Int)).toNat = 0 from rfl] at hx248_0)
                          (try rw [Addr.add_zero'] at hx248_0)
                          replace p248 := eq_true p248
                          replace q248 := eq_true q248
                          have p249 : 0 ≤ (1 : Int) := (by omega)
                          have q249 : 1 < (x3_1.length : Int) := of_decide_eq_true (by first | (with_reducible assumption) | assumption)
                          obtain ⟨ad249, e249, hx249_0⟩ := Kd.at_int (Kd.R_reads' HO_3.out).2.2 1 p249 q249
                          obtain rfl : ad248 = ad249 := (by injection e249)
                          (try simp only [show (1 : Int).toNat = 1 from rfl, Nat.reduceMul, Nat.reduceEqDiff, Go.Addr.add, ↓reduceIte] at hx249_0)
                          have qi249 : (1 < x3_1.length) = True := eq_true (by omega)
                          (try rw [show ((1 : Int)).toNat = 1 from rfl] at hx249_0)
                          replace p249 := eq_true p249
                          replace q249 := eq_true q249
                          refine start_ (n := 8) (S := fun w' => w'.cell? ad248 = some (.int .i64 (rd x3_1 0)) ∧ w'.cell? ⟨ad248.block, ad248.off + 1, none⟩ = some (.int .i64 (rd x3_1 1))) (ds := []) #[false, false, false, false, false, false, false, false] (by kernel_rfl) rfl rfl ⟨hx248_0, hx249_0⟩ (fun hHeld => ?_); refine with_tabW sort_sort.tab29 sort_sort.bits29 (fun HT_ HW_ => ?_)
                          generalize wc.drew = w39 at HO_3 HB hx248_0 hx249_0 hHeld ⊢
                          refine pure_ (i := 0) (N := some 62) (v := ?_) (a' := ?_) #[true, false, false, false, false, false, false, false] rfl rfl (any_of HT_.out (by kernel_rfl)) (fun _ _ _ h => h) (Or.inl ⟨by rfl, ?_⟩) ?_ ?_
                          rotate_left
                          · intro w'
                            go_simp
                            with_reducible rfl
                          rotate_left
                          · simp only [Act.put, List.setIfInBounds_toArray, List.set_cons_zero, List.set_cons_succ, i64_w, i32_w]
                            rfl
                          refine pure_ (i := 1) (N := some 63) (v := ?_) (a' := ?_) #[true, true, false, false, false, false, false, false] rfl rfl (any_of HT_.out (by kernel_rfl)) (fun _ _ _ h => h) (Or.inl ⟨by rfl, ?_⟩) ?_ ?_
                          rotate_left
                          · intro w'
                            go_simp
                            with_reducible rfl
                          rotate_left
                          · simp only [Act.put, List.setIfInBounds_toArray, List.set_cons_zero, List.set_cons_succ, i64_w, i32_w]
                            rfl
                          refine pure_ (i := 3) (N := some 65) (v := ?_) (a' := ?_) #[true, true, false, true, false, false, false, false] rfl rfl (any_of HT_.out (by kernel_rfl)) (fun _ _ _ h => h) (Or.inl ⟨by rfl, ?_⟩) ?_ ?_
                          rotate_left
                          · intro w'
                            go_simp
                            with_reducible rfl
                          rotate_left
                          · simp only [Act.put, List.setIfInBounds_toArray, List.set_cons_zero, List.set_cons_succ, i64_w, i32_w]
                            rfl
                          refine pure_ (i := 4) (N := some 66) (v := ?_) (a' := ?_) #[true, true, false, true, true, false, false, false] rfl rfl (any_of HT_.out (by kernel_rfl)) (fun _ _ _ h => h) (Or.inl ⟨by rfl, ?_⟩) ?_ ?_
                          rotate_left
                          · intro w'
                            go_simp
                            with_reducible rfl
                          rotate_left
                          · simp only [Act.put, List.setIfInBounds_toArray, List.set_cons_zero, List.set_cons_succ, i64_w, i32_w]
                            rfl
                          refine take_ (i := 2) (N := some 64) (v := ?_) (a' := ?_) #[true, true, true, true, true, false, false, false] rfl rfl (take_ofW HT_.out HW_.out (by kernel_rfl)) (fun _ _ _ h => h) (Or.inl ⟨by rfl, ?_⟩) hHeld ?_ ?_
                          rotate_left
                          · rintro w' ⟨s0, s1⟩
                            go_simp
                            with_reducible rfl
                          rotate_left
                          · simp only [Act.put, List.setIfInBounds_toArray, List.set_cons_zero, List.set_cons_succ, i64_w, i32_w]
                            rfl
                          refine take_ (i := 5) (N := some 67) (v := ?_) (a' := ?_) #[true, true, true, true, true, true, false, false] rfl rfl (take_ofW HT_.out HW_.out (by kernel_rfl)) (fun _ _ _ h => h) (Or.inl ⟨by rfl, ?_⟩) hHeld ?_ ?_
                          rotate_left
                          · rintro w' ⟨s0, s1⟩
                            go_simp
                            with_reducible rfl
                          rotate_left
                          · simp only [Act.put, List.setIfInBounds_toArray, List.set_cons_zero, List.set_cons_succ, i64_w, i32_w]
                            rfl
                          refine one_ (i := 6) (N := some 68) #[true, true, true, true, true, true, true, false] rfl rfl (one_of HT_.out (by kernel_rfl)) (by decide) (fun K hK => ?_)
                          refine goes_ Tryd.func95 (by kernel_rfl) rfl #[.int .i64 (rd x3_1 0), .int .i64 (rd x3_1 1)] (by rfl) rfl rfl (by (try simp only [List.map_toArray, List.map_cons, List.map_nil]); first | done | rfl | (simp only [List.length_drop, List.length_take]; rfl)) ?_
                          with_reducible refine (sort_both.calls (rd x3_1 0) (rd x3_1 1) t250 _ A38.out).mono ?_
                          rintro e w41 ⟨rfl, hb⟩
                          have HS0_ := (hb.cell (World.block_lt_of_cell? _ _ (hHeld.1))).trans (hHeld.1)
                          have HS1_ := (hb.cell (World.block_lt_of_cell? _ _ (hHeld.2))).trans (hHeld.2)
                          refine ⟨_, rfl, ?_⟩
                          have n0_ := Aside0.mk (Kd.R_below (by (with_reducible repeat (first | apply Kd.R_alloc | apply Kd.R_drewN | apply Kd.R_drew)); exact HO_3.out) hb)
                          have n1_ := Aside0.mk (below_step (by repeat (first | (with_reducible first | exact HB.out | apply below_alloc | apply pw_below_drewN | apply below_drew1) | exact HB.out)) hb)
                          clear HO_3
                          clear HB
                          have HO_3 := n0_
                          have HB := n1_
                          clear n0_ n1_
                          (try clear hb)
                          (try clear hb2)
                          (try clear hk)
                          (try clear hi)
                          refine hK.out _ _ ⟨HS0_, HS1_⟩ (fun hHeld => ?_)
                          clear hK K
                          refine norm_ (a' := ?_) ?_ ?_
                          rotate_left
                          · show Act.put _ (some 68) _ = _
                            simp only [Act.put, List.setIfInBounds_toArray, List.set_cons_zero, List.set_cons_succ, i64_w, i32_w]
                            rfl
                          refine pure_ (i := 7) (N := some 2) (v := ?_) (a' := ?_) #[true, true, true, true, true, true, true, true] rfl rfl (any_of HT_.out (by kernel_rfl)) (fun _ _ _ h => h) (Or.inl ⟨by rfl, ?_⟩) ?_ ?_
                          rotate_left
                          · intro w'
                            go_simp
                            with_reducible rfl
                          rotate_left
                          · simp only [Act.put, List.setIfInBounds_toArray, List.set_cons_zero, List.set_cons_succ, i64_w, i32_w]
                            rfl
                          refine done_ (done_of HT_.out (by kernel_rfl)) ?_
                          try go_wp2
                          go_ret
                          exact ⟨by first | rfl | (simp [errW_none, errW_some] <;> rfl) | (simp [*, errW_none, errW_some] <;> rfl), by repeat (first | (with_reducible first | exact HB.out | apply below_alloc | apply pw_below_drewN | apply below_drew1) | exact HB.out)⟩
                        · rw [if_neg c37] at H
                          exact absurd H (by simp)
                      · rw [if_neg c36] at H
                        exact absurd H (by simp)
                    · rw [if_neg c35] at H
                      have c35b0 : (((rd_T48 l0 0).f0) == 7) = false := beq_eq_false_iff_ne.mpr c35
                      have c35b1 : (((rd_T48 l0 0).f0) != 7) = true := bne_iff_ne.mpr c35
                      by_cases c42 : ((rd_T48 l0 0).f0) = 5
                      · rw [if_pos c42] at H
                        have c42b0 : (((rd_T48 l0 0).f0) == 5) = true := beq_iff_eq.mpr c42
                        have c42b1 : (((rd_T48 l0 0).f0) != 5) = false := bne_eq_false_iff_eq.mpr c42
                        clear c42
                        by_cases c43 : 0 < (x3_1.length : Int)
                        · rw [if_pos c43] at H
                          have c43b0 : decide (0 < (x3_1.length : Int)) = true := decide_eq_true c43
                          have c43b1 : decide (0 < x3_1.length) = true := decide_eq_true (by omega)
                          clear c43
                          by_cases c44 : 1 < (x3_1.length : Int)
                          · rw [if_pos c44] at H
                            have c44b0 : decide (1 < (x3_1.length : Int)) = true := decide_eq_true c44
                            have c44b1 : decide (1 < x3_1.length) = true := decide_eq_true (by omega)
                            clear c44
                            replace H := Option.bind_eq_some_iff.mp H
                            obtain ⟨t253, A450, H⟩ := H
                            replace H : ((sort_behind.f (rd x3_1 0) (rd x3_1 1) 2).bind fun t256 => (some (mx t253 t256))) = some r := H
                            have A45 := Aside0.mk A450
                            clear A450
                            replace H := Option.bind_eq_some_iff.mp H
                            obtain ⟨t256, A460, H⟩ := H
                            replace H : (some (mx t253 t256)) = some r := H
                            have A46 := Aside0.mk A460
                            clear A460
                            obtain ⟨ji47, hji47⟩ : ∃ j_ : Int, (mx t253 t256) = j_ := ⟨_, rfl⟩
                            replace H : (some ji47) = some r := by first | (rw [hji47] at H; exact H) | (simp only [hji47] at H ⊢; exact H)
                            (try rw [hji47] at A45)
                            (try rw [hji47] at A46)
                            have hji47_ : (if t253 < t256 then t256 else t253) = ji47 := hji47
                            obtain rfl := Option.some.inj H
                            try go_wp2
                            have n0_ := Aside0.mk (Kd.R_drew HO_3.out)
                            have n1_ := Aside0.mk (below_drew1 HB.out)
                            clear HO_3
                            clear HB
                            have HO_3 := n0_
                            have HB := n1_
                            clear n0_ n1_
                            obtain ⟨Ao49, co49, eo49⟩ := Kd.R_slice HO_3.out
                            (first | subst eo49 | (injection eo49 with f1_ f2_ f3_; have f4_ := f1_.symm; have f5_ := f3_.symm; clear f1_ f2_ f3_; subst f4_; subst f5_))
                            have p251 : 0 ≤ (0 : Int) := (by omega)
                            have q251 : 0 < (x3_1.length : Int) := of_decide_eq_true (by first | (with_reducible assumption) | assumption)
                            obtain ⟨ad251, e251, hx251_0⟩ := Kd.at_int (Kd.R_reads' HO_3.out).2.2 0 p251 q251
                            cases e251
                            have qi251 : (0 < x3_1.length) = True := eq_true (by omega)
                            (try rw [show ((0 : Int)).toNat = 0 from rfl] at hx251_0)
                            (try rw [Addr.add_zero'] at hx251_0)
                            replace p251 := eq_true p251
                            replace q251 := eq_true q251
                            have p252 : 0 ≤ (1 : Int) := (by omega)
                            have q252 : 1 < (x3_1.length : Int) := of_decide_eq_true (by first | (with_reducible assumption) | assumption)
                            obtain ⟨ad252, e252, hx252_0⟩ := Kd.at_int (Kd.R_reads' HO_3.out).2.2 1 p252 q252
                            obtain rfl : ad251 = ad252 := (by injection e252)
                            (try simp only [show (1 : Int).toNat = 1 from rfl, Nat.reduceMul, Nat.reduceEqDiff, Go.Addr.add, ↓reduceIte] at hx252_0)
                            have qi252 : (1 < x3_1.length) = True := eq_true (by omega)
                            (try rw [show ((1 : Int)).toNat = 1 from rfl] at hx252_0)
                            replace p252 := eq_true p252
                            replace q252 := eq_true q252
                            have p254 : 0 ≤ (0 : Int) := (by omega)
                            have q254 : 0 < (x3_1.length : Int) := of_decide_eq_true (by first | (with_reducible assumption) | assumption)
                            obtain ⟨ad254, e254, hx254_0⟩ := Kd.at_int (Kd.R_reads' HO_3.out).2.2 0 p254 q254
                            obtain rfl : ad251 = ad254 := (by injection e254)
                            have qi254 : (0 < x3_1.length) = True := eq_true (by omega)
                            (try rw [show ((0 : Int)).toNat = 0 from rfl] at hx254_0)
                            (try rw [Addr.add_zero'] at hx254_0)
                            replace p254 := eq_true p254
                            replace q254 := eq_true q254
                            have p255 : 0 ≤ (1 : Int) := (by omega)
                            have q255 : 1 < (x3_1.length : Int) := of_decide_eq_true (by first | (with_reducible assumption) | assumption)
                            obtain ⟨ad255, e255, hx255_0⟩ := Kd.at_int (Kd.R_reads' HO_3.out).2.2 1 p255 q255
                            obtain rfl : ad251 = ad255 := (by injection e255)
                            (try simp only [show (1 : Int).toNat = 1 from rfl, Nat.reduceMul, Nat.reduceEqDiff, Go.Addr.add, ↓reduceIte] at hx255_0)
                            have qi255 : (1 < x3_1.length) = True := eq_true (by omega)
                            (try rw [show ((1 : Int)).toNat = 1 from rfl] at hx255_0)
                            replace p255 := eq_true p255
                            replace q255 := eq_true q255
                            refine start_ (n := 16) (S := fun w' => w'.cell? ad251 = some (.int .i64 (rd x3_1 0)) ∧ w'.cell? ⟨ad251.block, ad251.off + 1, none⟩ = some (.int .i64 (rd x3_1 1)) ∧ w'.cell? ad251 = some (.int .i64 (rd x3_1 0)) ∧ w'.cell? ⟨ad251.block, ad251.off + 1, none⟩ = some (.int .i64 (rd x3_1 1))) (ds := []) #[false, false, false, false, false, false, false, false, false, false, false, false, false, false, false, false] (by kernel_rfl) rfl rfl ⟨hx251_0, hx252_0, hx254_0, hx255_0⟩ (fun hHeld => ?_); refine with_tabW sort_sort.tab30 sort_sort.bits30 (fun HT_ HW_ => ?_)
                            generalize wc.drew = w48 at HO_3 HB hx251_0 hx252_0 hx254_0 hx255_0 hHeld ⊢
                            refine pure_ (i := 0) (N := some 69) (v := ?_) (a' := ?_) #[true, false, false, false, false, false, false, false, false, false, false, false, false, false, false, false] rfl rfl (any_of HT_.out (by kernel_rfl)) (fun _ _ _ h => h) (Or.inl ⟨by rfl, ?_⟩) ?_ ?_
                            rotate_left
                            · intro w'
                              go_simp
                              with_reducible rfl
                            rotate_left
                            · simp only [Act.put, List.setIfInBounds_toArray, List.set_cons_zero, List.set_cons_succ, i64_w, i32_w]
                              rfl
                            refine pure_ (i := 1) (N := some 70) (v := ?_) (a' := ?_) #[true, true, false, false, false, false, false, false, false, false, false, false, false, false, false, false] rfl rfl (any_of HT_.out (by kernel_rfl)) (fun _ _ _ h => h) (Or.inl ⟨by rfl, ?_⟩) ?_ ?_
                            rotate_left
                            · intro w'
                              go_simp
                              with_reducible rfl
                            rotate_left
                            · simp only [Act.put, List.setIfInBounds_toArray, List.set_cons_zero, List.set_cons_succ, i64_w, i32_w]
                              rfl
                            refine pure_ (i := 3) (N := some 72) (v := ?_) (a' := ?_) #[true, true, false, true, false, false, false, false, false, false, false, false, false, false, false, false] rfl rfl (any_of HT_.out (by kernel_rfl)) (fun _ _ _ h => h) (Or.inl ⟨by rfl, ?_⟩) ?_ ?_
                            rotate_left
                            · intro w'
                              go_simp
                              with_reducible rfl
                            rotate_left
                            · simp only [Act.put, List.setIfInBounds_toArray, List.set_cons_zero, List.set_cons_succ, i64_w, i32_w]
                              rfl
                            refine pure_ (i := 4) (N := some 73) (v := ?_) (a' := ?_) #[true, true, false, true, true, false, false, false, false, false, false, false, false, false, false, false] rfl rfl (any_of HT_.out (by kernel_rfl)) (fun _ _ _ h => h) (Or.inl ⟨by rfl, ?_⟩) ?_ ?_
                            rotate_left
                            · intro w'
                              go_simp
                              with_reducible rfl
                            rotate_left
                            · simp only [Act.put, List.setIfInBounds_toArray, List.set_cons_zero, List.set_cons_succ, i64_w, i32_w]
                              rfl
                            refine pure_ (i := 7) (N := some 76) (v := ?_) (a' := ?_) #[true, true, false, true, true, false, false, true, false, false, false, false, false, false, false, false] rfl rfl (any_of HT_.out (by kernel_rfl)) (fun _ _ _ h => h) (Or.inl ⟨by rfl, ?_⟩) ?_ ?_
                            rotate_left
                            · intro w'
                              go_simp
                              with_reducible rfl
                            rotate_left
                            · simp only [Act.put, List.setIfInBounds_toArray, List.set_cons_zero, List.set_cons_succ, i64_w, i32_w]
                              rfl
                            refine pure_ (i := 8) (N := some 77) (v := ?_) (a' := ?_) #[true, true, false, true, true, false, false, true, true, false, false, false, false, false, false, false] rfl rfl (any_of HT_.out (by kernel_rfl)) (fun _ _ _ h => h) (Or.inl ⟨by rfl, ?_⟩) ?_ ?_
                            rotate_left
                            · intro w'
                              go_simp
                              with_reducible rfl
                            rotate_left
                            · simp only [Act.put, List.setIfInBounds_toArray, List.set_cons_zero, List.set_cons_succ, i64_w, i32_w]
                              rfl
                            refine pure_ (i := 10) (N := some 79) (v := ?_) (a' := ?_) #[true, true, false, true, true, false, false, true, true, false, true, false, false, false, false, false] rfl rfl (any_of HT_.out (by kernel_rfl)) (fun _ _ _ h => h) (Or.inl ⟨by rfl, ?_⟩) ?_ ?_
                            rotate_left
                            · intro w'
                              go_simp
                              with_reducible rfl
                            rotate_left
                            · simp only [Act.put, List.setIfInBounds_toArray, List.set_cons_zero, List.set_cons_succ, i64_w, i32_w]
                              rfl
                            refine pure_ (i := 11) (N := some 80) (v := ?_) (a' := ?_) #[true, true, false, true, true, false, false, true, true, false, true, true, false, false, false, false] rfl rfl (any_of HT_.out (by kernel_rfl)) (fun _ _ _ h => h) (Or.inl ⟨by rfl, ?_⟩) ?_ ?_
                            rotate_left
                            · intro w'
                              go_simp
                              with_reducible rfl
                            rotate_left
                            · simp only [Act.put, List.setIfInBounds_toArray, List.set_cons_zero, List.set_cons_succ, i64_w, i32_w]
                              rfl
                            refine take_ (i := 2) (N := some 71) (v := ?_) (a' := ?_) #[true, true, true, true, true, false, false, true, true, false, true, true, false, false, false, false] rfl rfl (take_ofW HT_.out HW_.out (by kernel_rfl)) (fun _ _ _ h => h) (Or.inl ⟨by rfl, ?_⟩) hHeld ?_ ?_
                            rotate_left
                            · rintro w' ⟨s0, s1, s2, s3⟩
                              go_simp
                              with_reducible rfl
                            rotate_left
                            · simp only [Act.put, List.setIfInBounds_toArray, List.set_cons_zero, List.set_cons_succ, i64_w, i32_w]
                              rfl
                            refine take_ (i := 5) (N := some 74) (v := ?_) (a' := ?_) #[true, true, true, true, true, true, false, true, true, false, true, true, false, false, false, false] rfl rfl (take_ofW HT_.out HW_.out (by kernel_rfl)) (fun _ _ _ h => h) (Or.inl ⟨by rfl, ?_⟩) hHeld ?_ ?_
                            rotate_left
                            · rintro w' ⟨s0, s1, s2, s3⟩
                              go_simp
                              with_reducible rfl
                            rotate_left
                            · simp only [Act.put, List.setIfInBounds_toArray, List.set_cons_zero, List.set_cons_succ, i64_w, i32_w]
                              rfl
                            refine take_ (i := 9) (N := some 78) (v := ?_) (a' := ?_) #[true, true, true, true, true, true, false, true, true, true, true, true, false, false, false, false] rfl rfl (take_ofW HT_.out HW_.out (by kernel_rfl)) (fun _ _ _ h => h) (Or.inl ⟨by rfl, ?_⟩) hHeld ?_ ?_
                            rotate_left
                            · rintro w' ⟨s0, s1, s2, s3⟩
                              go_simp
                              with_reducible rfl
                            rotate_left
                            · simp only [Act.put, List.setIfInBounds_toArray, List.set_cons_zero, List.set_cons_succ, i64_w, i32_w]
                              rfl
                            refine take_ (i := 12) (N := some 81) (v := ?_) (a' := ?_) #[true, true, true, true, true, true, false, true, true, true, true, true, true, false, false, false] rfl rfl (take_ofW HT_.out HW_.out (by kernel_rfl)) (fun _ _ _ h => h) (Or.inl ⟨by rfl, ?_⟩) hHeld ?_ ?_
                            rotate_left
                            · rintro w' ⟨s0, s1, s2, s3⟩
                              go_simp
                              with_reducible rfl
                            rotate_left
                            · simp only [Act.put, List.setIfInBounds_toArray, List.set_cons_zero, List.set_cons_succ, i64_w, i32_w]
                              rfl
                            refine one_ (i := 6) (N := some 75) #[true, true, true, true, true, true, true, true, true, true, true, true, true, false, false, false] rfl rfl (one_of HT_.out (by kernel_rfl)) (by decide) (fun K hK => ?_)
                            refine goes_ Tryd.func96 (by kernel_rfl) rfl #[.int .i64 (rd x3_1 0), .int .i64 (rd x3_1 1), .int .i64 1] (by rfl) rfl rfl (by (try simp only [List.map_toArray, List.map_cons, List.map_nil]); first | done | rfl | (simp only [List.length_drop, List.length_take]; rfl)) ?_
                            with_reducible refine (sort_behind.calls (rd x3_1 0) (rd x3_1 1) 1 t253 _ A45.out).mono ?_
                            rintro e w' ⟨rfl, ⟨nd, rfl⟩⟩
                            refine ⟨_, rfl, ?_⟩
                            refine hK.out _ _ ⟨hHeld.1, hHeld.2.1, hHeld.2.2.1, hHeld.2.2.2⟩ (fun hHeld => ?_)
                            clear hK K
                            refine norm_ (a' := ?_) ?_ ?_
                            rotate_left
                            · show Act.put _ (some 75) _ = _
                              simp only [Act.put, List.setIfInBounds_toArray, List.set_cons_zero, List.set_cons_succ, i64_w, i32_w]
                              rfl
                            refine one_ (i := 13) (N := some 82) #[true, true, true, true, true, true, true, true, true, true, true, true, true, true, false, false] rfl rfl (one_of HT_.out (by kernel_rfl)) (by decide) (fun K hK => ?_)
                            refine goes_ Tryd.func96 (by kernel_rfl) rfl #[.int .i64 (rd x3_1 0), .int .i64 (rd x3_1 1), .int .i64 2] (by rfl) rfl rfl (by (try simp only [List.map_toArray, List.map_cons, List.map_nil]); first | done | rfl | (simp only [List.length_drop, List.length_take]; rfl)) ?_
                            with_reducible refine (sort_behind.calls (rd x3_1 0) (rd x3_1 1) 2 t256 _ A46.out).mono ?_
                            rintro e w' ⟨rfl, ⟨nd, rfl⟩⟩
                            refine ⟨_, rfl, ?_⟩
                            refine hK.out _ _ ⟨hHeld.1, hHeld.2.1, hHeld.2.2.1, hHeld.2.2.2⟩ (fun hHeld => ?_)
                            clear hK K
                            refine norm_ (a' := ?_) ?_ ?_
                            rotate_left
                            · show Act.put _ (some 82) _ = _
                              simp only [Act.put, List.setIfInBounds_toArray, List.set_cons_zero, List.set_cons_succ, i64_w, i32_w]
                              rfl
                            refine pure_ (i := 14) (N := some 83) (v := ?_) (a' := ?_) #[true, true, true, true, true, true, true, true, true, true, true, true, true, true, true, false] rfl rfl (any_of HT_.out (by kernel_rfl)) (fun _ _ _ h => h) (Or.inl ⟨by rfl, ?_⟩) ?_ ?_
                            rotate_left
                            · intro w'
                              go_simp
                              with_reducible rfl
                            rotate_left
                            · simp only [Act.put, List.setIfInBounds_toArray, List.set_cons_zero, List.set_cons_succ, i64_w, i32_w]
                              rfl
                            refine pure_ (i := 15) (N := some 2) (v := ?_) (a' := ?_) #[true, true, true, true, true, true, true, true, true, true, true, true, true, true, true, true] rfl rfl (any_of HT_.out (by kernel_rfl)) (fun _ _ _ h => h) (Or.inl ⟨by rfl, ?_⟩) ?_ ?_
                            rotate_left
                            · intro w'
                              go_simp
                              with_reducible rfl
                            rotate_left
                            · simp only [Act.put, List.setIfInBounds_toArray, List.set_cons_zero, List.set_cons_succ, i64_w, i32_w]
                              rfl
                            refine done_ (done_of HT_.out (by kernel_rfl)) ?_
                            try go_wp2
                            go_ret
                            exact ⟨by first | rfl | (simp [errW_none, errW_some] <;> rfl) | (simp only [← hji47]; first | rfl | (simp [errW_none, errW_some] <;> rfl)) | (simp [*, errW_none, errW_some] <;> rfl), by repeat (first | (with_reducible first | exact HB.out | apply below_alloc | apply pw_below_drewN | apply below_drew1) | exact HB.out)⟩
                          · rw [if_neg c44] at H
                            exact absurd H (by simp)
                        · rw [if_neg c43] at H
                          exact absurd H (by simp)
                      · rw [if_neg c42] at H
                        have c42b0 : (((rd_T48 l0 0).f0) == 5) = false := beq_eq_false_iff_ne.mpr c42
                        have c42b1 : (((rd_T48 l0 0).f0) != 5) = true := bne_iff_ne.mpr c42
                        by_cases c50 : ((rd_T48 l0 0).f0) = 8
                        · rw [if_pos c50] at H
                          have c50b0 : (((rd_T48 l0 0).f0) == 8) = true := beq_iff_eq.mpr c50
                          have c50b1 : (((rd_T48 l0 0).f0) != 8) = false := bne_eq_false_iff_eq.mpr c50
                          clear c50
                          by_cases c51 : 0 < (x3_1.length : Int)
                          · rw [if_pos c51] at H
                            have c51b0 : decide (0 < (x3_1.length : Int)) = true := decide_eq_true c51
                            have c51b1 : decide (0 < x3_1.length) = true := decide_eq_true (by omega)
                            clear c51
                            by_cases c52 : 1 < (x3_1.length : Int)
                            · rw [if_pos c52] at H
                              have c52b0 : decide (1 < (x3_1.length : Int)) = true := decide_eq_true c52
                              have c52b1 : decide (1 < x3_1.length) = true := decide_eq_true (by omega)
                              clear c52
                              replace H := Option.bind_eq_some_iff.mp H
                              obtain ⟨t271, A530, H⟩ := H
                              replace H : (some t271) = some r := H
                              have A53 := Aside0.mk A530
                              clear A530
                              obtain rfl := Option.some.inj H
                              try go_wp2
                              have n0_ := Aside0.mk (Kd.R_drew HO_3.out)
                              have n1_ := Aside0.mk (below_drew1 HB.out)
                              clear HO_3
                              clear HB
                              have HO_3 := n0_
                              have HB := n1_
                              clear n0_ n1_
                              obtain ⟨Ao55, co55, eo55⟩ := Kd.R_slice HO_3.out
                              (first | subst eo55 | (injection eo55 with f1_ f2_ f3_; have f4_ := f1_.symm; have f5_ := f3_.symm; clear f1_ f2_ f3_; subst f4_; subst f5_))
                              have p269 : 0 ≤ (0 : Int) := (by omega)
                              have q269 : 0 < (x3_1.length : Int) := of_decide_eq_true (by first | (with_reducible assumption) | assumption)
                              obtain ⟨ad269, e269, hx269_0⟩ := Kd.at_int (Kd.R_reads' HO_3.out).2.2 0 p269 q269
                              cases e269
                              have qi269 : (0 < x3_1.length) = True := eq_true (by omega)
                              (try rw [show ((0 : Int)).toNat = 0 from rfl] at hx269_0)
                              (try rw [Addr.add_zero'] at hx269_0)
                              replace p269 := eq_true p269
                              replace q269 := eq_true q269
                              have p270 : 0 ≤ (1 : Int) := (by omega)
                              have q270 : 1 < (x3_1.length : Int) := of_decide_eq_true (by first | (with_reducible assumption) | assumption)
                              obtain ⟨ad270, e270, hx270_0⟩ := Kd.at_int (Kd.R_reads' HO_3.out).2.2 1 p270 q270
                              obtain rfl : ad269 = ad270 := (by injection e270)
                              (try simp only [show (1 : Int).toNat = 1 from rfl, Nat.reduceMul, Nat.reduceEqDiff, Go.Addr.add, ↓reduceIte] at hx270_0)
                              have qi270 : (1 < x3_1.length) = True := eq_true (by omega)
                              (try rw [show ((1 : Int)).toNat = 1 from rfl] at hx270_0)
                              replace p270 := eq_true p270
                              replace q270 := eq_true q270
                              refine start_ (n := 8) (S := fun w' => w'.cell? ad269 = some (.int .i64 (rd x3_1 0)) ∧ w'.cell? ⟨ad269.block, ad269.off + 1, none⟩ = some (.int .i64 (rd x3_1 1))) (ds := []) #[false, false, false, false, false, false, false, false] (by kernel_rfl) rfl rfl ⟨hx269_0, hx270_0⟩ (fun hHeld => ?_); refine with_tabW sort_sort.tab31 sort_sort.bits31 (fun HT_ HW_ => ?_)
                              generalize wc.drew = w54 at HO_3 HB hx269_0 hx270_0 hHeld ⊢
                              refine pure_ (i := 0) (N := some 84) (v := ?_) (a' := ?_) #[true, false, false, false, false, false, false, false] rfl rfl (any_of HT_.out (by kernel_rfl)) (fun _ _ _ h => h) (Or.inl ⟨by rfl, ?_⟩) ?_ ?_
                              rotate_left
                              · intro w'
                                go_simp
                                with_reducible rfl
                              rotate_left
                              · simp only [Act.put, List.setIfInBounds_toArray, List.set_cons_zero, List.set_cons_succ, i64_w, i32_w]
                                rfl
                              refine pure_ (i := 1) (N := some 85) (v := ?_) (a' := ?_) #[true, true, false, false, false, false, false, false] rfl rfl (any_of HT_.out (by kernel_rfl)) (fun _ _ _ h => h) (Or.inl ⟨by rfl, ?_⟩) ?_ ?_
                              rotate_left
                              · intro w'
                                go_simp
                                with_reducible rfl
                              rotate_left
                              · simp only [Act.put, List.setIfInBounds_toArray, List.set_cons_zero, List.set_cons_succ, i64_w, i32_w]
                                rfl
                              refine pure_ (i := 3) (N := some 87) (v := ?_) (a' := ?_) #[true, true, false, true, false, false, false, false] rfl rfl (any_of HT_.out (by kernel_rfl)) (fun _ _ _ h => h) (Or.inl ⟨by rfl, ?_⟩) ?_ ?_
                              rotate_left
                              · intro w'
                                go_simp
                                with_reducible rfl
                              rotate_left
                              · simp only [Act.put, List.setIfInBounds_toArray, List.set_cons_zero, List.set_cons_succ, i64_w, i32_w]
                                rfl
                              refine pure_ (i := 4) (N := some 88) (v := ?_) (a' := ?_) #[true, true, false, true, true, false, false, false] rfl rfl (any_of HT_.out (by kernel_rfl)) (fun _ _ _ h => h) (Or.inl ⟨by rfl, ?_⟩) ?_ ?_
                              rotate_left
                              · intro w'
                                go_simp
                                with_reducible rfl
                              rotate_left
                              · simp only [Act.put, List.setIfInBounds_toArray, List.set_cons_zero, List.set_cons_succ, i64_w, i32_w]
                                rfl
                              refine take_ (i := 2) (N := some 86) (v := ?_) (a' := ?_) #[true, true, true, true, true, false, false, false] rfl rfl (take_ofW HT_.out HW_.out (by kernel_rfl)) (fun _ _ _ h => h) (Or.inl ⟨by rfl, ?_⟩) hHeld ?_ ?_
                              rotate_left
                              · rintro w' ⟨s0, s1⟩
                                go_simp
                                with_reducible rfl
                              rotate_left
                              · simp only [Act.put, List.setIfInBounds_toArray, List.set_cons_zero, List.set_cons_succ, i64_w, i32_w]
                                rfl
                              refine take_ (i := 5) (N := some 89) (v := ?_) (a' := ?_) #[true, true, true, true, true, true, false, false] rfl rfl (take_ofW HT_.out HW_.out (by kernel_rfl)) (fun _ _ _ h => h) (Or.inl ⟨by rfl, ?_⟩) hHeld ?_ ?_
                              rotate_left
                              · rintro w' ⟨s0, s1⟩
                                go_simp
                                with_reducible rfl
                              rotate_left
                              · simp only [Act.put, List.setIfInBounds_toArray, List.set_cons_zero, List.set_cons_succ, i64_w, i32_w]
                                rfl
                              refine one_ (i := 6) (N := some 90) #[true, true, true, true, true, true, true, false] rfl rfl (one_of HT_.out (by kernel_rfl)) (by decide) (fun K hK => ?_)
                              refine goes_ Tryd.func96 (by kernel_rfl) rfl #[.int .i64 (rd x3_1 0), .int .i64 (rd x3_1 1), .int .i64 1] (by rfl) rfl rfl (by (try simp only [List.map_toArray, List.map_cons, List.map_nil]); first | done | rfl | (simp only [List.length_drop, List.length_take]; rfl)) ?_
                              with_reducible refine (sort_behind.calls (rd x3_1 0) (rd x3_1 1) 1 t271 _ A53.out).mono ?_
                              rintro e w' ⟨rfl, ⟨nd, rfl⟩⟩
                              refine ⟨_, rfl, ?_⟩
                              refine hK.out _ _ ⟨hHeld.1, hHeld.2⟩ (fun hHeld => ?_)
                              clear hK K
                              refine norm_ (a' := ?_) ?_ ?_
                              rotate_left
                              · show Act.put _ (some 90) _ = _
                                simp only [Act.put, List.setIfInBounds_toArray, List.set_cons_zero, List.set_cons_succ, i64_w, i32_w]
                                rfl
                              refine pure_ (i := 7) (N := some 2) (v := ?_) (a' := ?_) #[true, true, true, true, true, true, true, true] rfl rfl (any_of HT_.out (by kernel_rfl)) (fun _ _ _ h => h) (Or.inl ⟨by rfl, ?_⟩) ?_ ?_
                              rotate_left
                              · intro w'
                                go_simp
                                with_reducible rfl
                              rotate_left
                              · simp only [Act.put, List.setIfInBounds_toArray, List.set_cons_zero, List.set_cons_succ, i64_w, i32_w]
                                rfl
                              refine done_ (done_of HT_.out (by kernel_rfl)) ?_
                              try go_wp2
                              go_ret
                              exact ⟨by first | rfl | (simp [errW_none, errW_some] <;> rfl) | (simp [*, errW_none, errW_some] <;> rfl), by repeat (first | (with_reducible first | exact HB.out | apply below_alloc | apply pw_below_drewN | apply below_drew1) | exact HB.out)⟩
                            · rw [if_neg c52] at H
                              exact absurd H (by simp)
                          · rw [if_neg c51] at H
                            exact absurd H (by simp)
                        · rw [if_neg c50] at H
                          have c50b0 : (((rd_T48 l0 0).f0) == 8) = false := beq_eq_false_iff_ne.mpr c50
                          have c50b1 : (((rd_T48 l0 0).f0) != 8) = true := bne_iff_ne.mpr c50
                          by_cases c56 : ((rd_T48 l0 0).f0) = 9
                          · rw [if_pos c56] at H
                            have c56b0 : (((rd_T48 l0 0).f0) == 9) = true := beq_iff_eq.mpr c56
                            have c56b1 : (((rd_T48 l0 0).f0) != 9) = false := bne_eq_false_iff_eq.mpr c56
                            clear c56
                            by_cases c57 : 0 < (x3_1.length : Int)
                            · rw [if_pos c57] at H
                              have c57b0 : decide (0 < (x3_1.length : Int)) = true := decide_eq_true c57
                              have c57b1 : decide (0 < x3_1.length) = true := decide_eq_true (by omega)
                              clear c57
                              replace H := Option.bind_eq_some_iff.mp H
                              obtain ⟨t258, A580, H⟩ := H
                              replace H : (if t258 = 4 then (some (wrap64 ((rd x3_1 0) - 1))) else (some 0)) = some r := H
                              have A58 := Aside0.mk A580
                              clear A580
                              by_cases c59 : t258 = 4
                              · rw [if_pos c59] at H
                                have c59b0 : (t258 == 4) = true := beq_iff_eq.mpr c59
                                have c59b1 : (t258 != 4) = false := bne_eq_false_iff_eq.mpr c59
                                clear c59
                                obtain rfl := Option.some.inj H
                                obtain ⟨Ao60, co60, eo60⟩ := Kd.R_slice HO_3.out
                                subst eo60
                                have p257 : 0 ≤ (0 : Int) := (by omega)
                                have q257 : 0 < (x3_1.length : Int) := of_decide_eq_true (by first | (with_reducible assumption) | assumption)
                                obtain ⟨ad257, e257, hx257_0⟩ := Kd.at_int (Kd.R_reads' HO_3.out).2.2 0 p257 q257
                                cases e257
                                have qi257 : (0 < x3_1.length) = True := eq_true (by omega)
                                (try rw [show ((0 : Int)).toNat = 0 from rfl] at hx257_0)
                                (try rw [Addr.add_zero'] at hx257_0)
                                replace p257 := eq_true p257
                                replace q257 := eq_true q257
                                go_wp2_with (first | ((with_reducible refine gate_callee (f := 82) rfl ?_); refine goesL_ (some 94) rfl rfl Tryd.func82 (by kernel_rfl) rfl #[.int .i64 (rd x3_1 0)] rfl (by (try simp only [List.map_toArray, List.map_cons, List.map_nil]); first | done | rfl | (simp only [List.length_drop, List.length_take]; rfl)) ?_; (with_reducible refine (sort_on.calls (rd x3_1 0) t258 _ A58.out).mono ?_); rintro e w' ⟨rfl, ⟨nd, rfl⟩⟩; refine ⟨_, rfl, ?_⟩; have p259 : 0 ≤ (0 : Int) := (by omega); have q259 : 0 < (x3_1.length : Int) := of_decide_eq_true (by first | (with_reducible assumption) | assumption); obtain ⟨ad259, e259, hx259_0⟩ := Kd.at_int (Kd.R_reads' HO_3.out).2.2 0 p259 q259; obtain rfl : ad257 = ad259 := (by injection e259); have qi259 : (0 < x3_1.length) = True := eq_true (by omega); (try rw [show ((0 : Int)).toNat = 0 from rfl] at hx259_0); (try rw [Addr.add_zero'] at hx259_0); replace p259 := eq_true p259; replace q259 := eq_true q259))
                                go_ret
                                exact ⟨by first | rfl | (simp [errW_none, errW_some] <;> rfl) | (simp [*, errW_none, errW_some] <;> rfl), by repeat (first | (with_reducible first | exact HB.out | apply below_alloc | apply pw_below_drewN | apply below_drew1) | exact HB.out)⟩
                              · rw [if_neg c59] at H
                                have c59b0 : (t258 == 4) = false := beq_eq_false_iff_ne.mpr c59
                                have c59b1 : (t258 != 4) = true := bne_iff_ne.mpr c59
                                obtain rfl := Option.some.inj H
                                obtain ⟨Ao61, co61, eo61⟩ := Kd.R_slice HO_3.out
                                subst eo61
                                have p257 : 0 ≤ (0 : Int) := (by omega)
                                have q257 : 0 < (x3_1.length : Int) := of_decide_eq_true (by first | (with_reducible assumption) | assumption)
                                obtain ⟨ad257, e257, hx257_0⟩ := Kd.at_int (Kd.R_reads' HO_3.out).2.2 0 p257 q257
                                cases e257
                                have qi257 : (0 < x3_1.length) = True := eq_true (by omega)
                                (try rw [show ((0 : Int)).toNat = 0 from rfl] at hx257_0)
                                (try rw [Addr.add_zero'] at hx257_0)
                                replace p257 := eq_true p257
                                replace q257 := eq_true q257
                                go_wp2_with (first | ((with_reducible refine gate_callee (f := 82) rfl ?_); refine goesL_ (some 94) rfl rfl Tryd.func82 (by kernel_rfl) rfl #[.int .i64 (rd x3_1 0)] rfl (by (try simp only [List.map_toArray, List.map_cons, List.map_nil]); first | done | rfl | (simp only [List.length_drop, List.length_take]; rfl)) ?_; (with_reducible refine (sort_on.calls (rd x3_1 0) t258 _ A58.out).mono ?_); rintro e w' ⟨rfl, ⟨nd, rfl⟩⟩; refine ⟨_, rfl, ?_⟩))
                                go_ret
                                exact ⟨by first | rfl | (simp [errW_none, errW_some] <;> rfl) | (simp [*, errW_none, errW_some] <;> rfl), by repeat (first | (with_reducible first | exact HB.out | apply below_alloc | apply pw_below_drewN | apply below_drew1) | exact HB.out)⟩
                            · rw [if_neg c57] at H
                              exact absurd H (by simp)
                          · rw [if_neg c56] at H
                            have c56b0 : (((rd_T48 l0 0).f0) == 9) = false := beq_eq_false_iff_ne.mpr c56
                            have c56b1 : (((rd_T48 l0 0).f0) != 9) = true := bne_iff_ne.mpr c56
                            by_cases c62 : ((rd_T48 l0 0).f0) = 10
                            · rw [if_pos c62] at H
                              have c62b0 : (((rd_T48 l0 0).f0) == 10) = true := beq_iff_eq.mpr c62
                              have c62b1 : (((rd_T48 l0 0).f0) != 10) = false := bne_eq_false_iff_eq.mpr c62
                              clear c62
                              have HC63 := Aside0.mk H
                              clear H
                              go_upto_region 34 with (fail)
                              go_cut [109] (fun v109 wc => ∃ (kq : Nat) (x109_62 : Bool), v109 = .bool x109_62 ∧ Aside0 (sort_sort.j3 kq x109_62 = some r) ∧ Aside0 (kq ≤ kj14) ∧ Aside0 (Below w.heap.size w wc))
                              case first =>
                                have H := HC63.out
                                clear HC63
                                by_cases c64 : 0 < (x3_1.length : Int)
                                · rw [if_pos c64] at H
                                  have c64b0 : decide (0 < (x3_1.length : Int)) = true := decide_eq_true c64
                                  have c64b1 : decide (0 < x3_1.length) = true := decide_eq_true (by omega)
                                  clear c64
                                  (first | rw [c64b0] | (simp only [i64_w, i32_w]; rw [c64b0]) | skip)
                                  by_cases c65 : (rd x3_1 0) = 1
                                  · rw [if_pos c65] at H
                                    have c65b0 : ((rd x3_1 0) == 1) = true := beq_iff_eq.mpr c65
                                    have c65b1 : ((rd x3_1 0) != 1) = false := bne_eq_false_iff_eq.mpr c65
                                    clear c65
                                    by_cases c66 : 1 < (x3_1.length : Int)
                                    · rw [if_pos c66] at H
                                      have c66b0 : decide (1 < (x3_1.length : Int)) = true := decide_eq_true c66
                                      have c66b1 : decide (1 < x3_1.length) = true := decide_eq_true (by omega)
                                      clear c66
                                      have H' := Aside0.mk H
                                      clear H
                                      obtain ⟨Ao67, co67, eo67⟩ := Kd.R_slice HO_3.out
                                      subst eo67
                                      have p272 : 0 ≤ (0 : Int) := (by omega)
                                      have q272 : 0 < (x3_1.length : Int) := of_decide_eq_true (by first | (with_reducible assumption) | assumption)
                                      obtain ⟨ad272, e272, hx272_0⟩ := Kd.at_int (Kd.R_reads' HO_3.out).2.2 0 p272 q272
                                      cases e272
                                      have qi272 : (0 < x3_1.length) = True := eq_true (by omega)
                                      (try rw [show ((0 : Int)).toNat = 0 from rfl] at hx272_0)
                                      (try rw [Addr.add_zero'] at hx272_0)
                                      replace p272 := eq_true p272
                                      replace q272 := eq_true q272
                                      have p273 : 0 ≤ (1 : Int) := (by omega)
                                      have q273 : 1 < (x3_1.length : Int) := of_decide_eq_true (by first | (with_reducible assumption) | assumption)
                                      obtain ⟨ad273, e273, hx273_0⟩ := Kd.at_int (Kd.R_reads' HO_3.out).2.2 1 p273 q273
                                      obtain rfl : ad272 = ad273 := (by injection e273)
                                      (try simp only [show (1 : Int).toNat = 1 from rfl, Nat.reduceMul, Nat.reduceEqDiff, Go.Addr.add, ↓reduceIte] at hx273_0)
                                      have qi273 : (1 < x3_1.length) = True := eq_true (by omega)
                                      (try rw [show ((1 : Int)).toNat = 1 from rfl] at hx273_0)
                                      replace p273 := eq_true p273
                                      replace q273 := eq_true q273
                                      go_wp2
                                      go_meet
                                      case rel => exact ⟨_, (((rd x3_1 1) == 1)), (by first | rfl | (simp; done) | (simp [*]; done)), H', ⟨by have := HK1.out; have := HJ14.out; first | omega | exact Nat.le_refl _⟩, ⟨by repeat (first | (with_reducible first | exact HB.out | apply below_alloc | apply pw_below_drewN | apply below_drew1) | exact HB.out)⟩⟩
                                    · rw [if_neg c66] at H
                                      exact absurd H (by simp)
                                  · rw [if_neg c65] at H
                                    have c65b0 : ((rd x3_1 0) == 1) = false := beq_eq_false_iff_ne.mpr c65
                                    have c65b1 : ((rd x3_1 0) != 1) = true := bne_iff_ne.mpr c65
                                    have H' := Aside0.mk H
                                    clear H
                                    obtain ⟨Ao68, co68, eo68⟩ := Kd.R_slice HO_3.out
                                    subst eo68
                                    have p272 : 0 ≤ (0 : Int) := (by omega)
                                    have q272 : 0 < (x3_1.length : Int) := of_decide_eq_true (by first | (with_reducible assumption) | assumption)
                                    obtain ⟨ad272, e272, hx272_0⟩ := Kd.at_int (Kd.R_reads' HO_3.out).2.2 0 p272 q272
                                    cases e272
                                    have qi272 : (0 < x3_1.length) = True := eq_true (by omega)
                                    (try rw [show ((0 : Int)).toNat = 0 from rfl] at hx272_0)
                                    (try rw [Addr.add_zero'] at hx272_0)
                                    replace p272 := eq_true p272
                                    replace q272 := eq_true q272
                                    go_wp2
                                    go_meet
                                    case rel => exact ⟨_, (false), (by first | rfl | (simp; done) | (simp [*]; done)), H', ⟨by have := HK1.out; have := HJ14.out; first | omega | exact Nat.le_refl _⟩, ⟨by repeat (first | (with_reducible first | exact HB.out | apply below_alloc | apply pw_below_drewN | apply below_drew1) | exact HB.out)⟩⟩
                                · rw [if_neg c64] at H
                                  exact absurd H (by simp)
                              case rest =>
                                clear HC63
                                try clear p2
                                try clear q2
                                try clear hx2
                                try clear qi2
                                try clear c3
                                try clear c4
                                try clear c5
                                try clear c6
                                try clear p6
                                try clear c8
                                try clear c9
                                try clear p24
                                try clear q24
                                try clear hx24
                                try clear qi24
                                try clear p25
                                try clear q25
                                try clear hx25
                                try clear qi25
                                try clear p26
                                try clear q26
                                try clear hx26
                                try clear qi26
                                try clear p27
                                try clear q27
                                try clear hx27
                                try clear qi27
                                try clear c35
                                try clear c35b0
                                try clear c35b1
                                try clear c36
                                try clear c37
                                try clear c42
                                try clear c42b0
                                try clear c42b1
                                try clear c43
                                try clear c43b0
                                try clear c43b1
                                try clear c44
                                try clear c44b0
                                try clear c44b1
                                try clear c50
                                try clear c50b0
                                try clear c50b1
                                try clear c51
                                try clear c51b0
                                try clear c51b1
                                try clear c52
                                try clear c52b0
                                try clear c52b1
                                try clear c56
                                try clear c56b0
                                try clear c56b1
                                try clear c57
                                try clear c57b0
                                try clear c57b1
                                try clear c59
                                try clear c59b0
                                try clear c59b1
                                try clear c62
                                try clear c62b0
                                try clear c62b1
                                try clear c64
                                try clear c64b0
                                try clear c64b1
                                try clear p64
                                try clear c65
                                try clear c65b0
                                try clear c65b1
                                try clear c66
                                try clear c66b0
                                try clear c66b1
                                try clear hx248_0
                                try clear hx249_0
                                try clear hx251_0
                                try clear hx252_0
                                try clear hx254_0
                                try clear hx255_0
                                try clear hx257_0
                                try clear hx259_0
                                try clear hx269_0
                                try clear hx270_0
                                try clear hx272_0
                                try clear hx273_0
                                try clear p248
                                try clear p249
                                try clear p251
                                try clear p252
                                try clear p254
                                try clear p255
                                try clear p257
                                try clear p259
                                try clear p269
                                try clear p270
                                try clear p272
                                try clear p273
                                try clear q248
                                try clear q249
                                try clear q251
                                try clear q252
                                try clear q254
                                try clear q255
                                try clear q257
                                try clear q259
                                try clear q269
                                try clear q270
                                try clear q272
                                try clear q273
                                obtain ⟨kq, x109_62, rfl, HA, HJ62, HB⟩ := hcut
                                cases kq with
                                | zero => exact absurd HA.out (by simp [sort_sort.j3])
                                | succ kj62 =>
                                  have H := HA.out
                                  clear HA
                                  simp only [sort_sort.j3] at H
                                  by_cases c69 : x109_62 = true
                                  · subst c69
                                    have H1 : (some 2) = some r := by rw [if_pos rfl] at H; exact H
                                    clear H
                                    have H := H1
                                    clear H1
                                    obtain rfl := Option.some.inj H
                                    go_wp2
                                    go_ret
                                    exact ⟨by first | rfl | (simp [errW_none, errW_some] <;> rfl) | (simp [*, errW_none, errW_some] <;> rfl), by repeat (first | (with_reducible first | exact HB.out | apply below_alloc | apply pw_below_drewN | apply below_drew1) | exact HB.out)⟩
                                  · replace c69 := Bool.eq_false_iff.mpr c69
                                    subst c69
                                    have H1 : (some 0) = some r := by rw [if_neg (show ¬ (false = true) by decide)] at H; exact H
                                    clear H
                                    have H := H1
                                    clear H1
                                    obtain rfl := Option.some.inj H
                                    go_wp2
                                    go_ret
                                    exact ⟨by first | rfl | (simp [errW_none, errW_some] <;> rfl) | (simp [*, errW_none, errW_some] <;> rfl), by repeat (first | (with_reducible first | exact HB.out | apply below_alloc | apply pw_below_drewN | apply below_drew1) | exact HB.out)⟩
                            · rw [if_neg c62] at H
                              have c62b0 : (((rd_T48 l0 0).f0) == 10) = false := beq_eq_false_iff_ne.mpr c62
                              have c62b1 : (((rd_T48 l0 0).f0) != 10) = true := bne_iff_ne.mpr c62
                              by_cases c70 : ((rd_T48 l0 0).f0) = 12
                              · rw [if_pos c70] at H
                                have c70b0 : (((rd_T48 l0 0).f0) == 12) = true := beq_iff_eq.mpr c70
                                have c70b1 : (((rd_T48 l0 0).f0) != 12) = false := bne_eq_false_iff_eq.mpr c70
                                clear c70
                                by_cases c71 : 0 < (x3_1.length : Int)
                                · rw [if_pos c71] at H
                                  have c71b0 : decide (0 < (x3_1.length : Int)) = true := decide_eq_true c71
                                  have c71b1 : decide (0 < x3_1.length) = true := decide_eq_true (by omega)
                                  clear c71
                                  replace H := Option.bind_eq_some_iff.mp H
                                  obtain ⟨t261, A720, H⟩ := H
                                  replace H : (if t261 = 3 then (if 1 < (x3_1.length : Int) then (if (rd x3_1 1) = 1 then (some 4) else (some 0)) else (none)) else (some 0)) = some r := H
                                  have A72 := Aside0.mk A720
                                  clear A720
                                  by_cases c73 : t261 = 3
                                  · rw [if_pos c73] at H
                                    have c73b0 : (t261 == 3) = true := beq_iff_eq.mpr c73
                                    have c73b1 : (t261 != 3) = false := bne_eq_false_iff_eq.mpr c73
                                    clear c73
                                    by_cases c74 : 1 < (x3_1.length : Int)
                                    · rw [if_pos c74] at H
                                      have c74b0 : decide (1 < (x3_1.length : Int)) = true := decide_eq_true c74
                                      have c74b1 : decide (1 < x3_1.length) = true := decide_eq_true (by omega)
                                      clear c74
                                      by_cases c75 : (rd x3_1 1) = 1
                                      · rw [if_pos c75] at H
                                        have c75b0 : ((rd x3_1 1) == 1) = true := beq_iff_eq.mpr c75
                                        have c75b1 : ((rd x3_1 1) != 1) = false := bne_eq_false_iff_eq.mpr c75
                                        clear c75
                                        obtain rfl := Option.some.inj H
                                        obtain ⟨Ao76, co76, eo76⟩ := Kd.R_slice HO_3.out
                                        subst eo76
                                        have p260 : 0 ≤ (0 : Int) := (by omega)
                                        have q260 : 0 < (x3_1.length : Int) := of_decide_eq_true (by first | (with_reducible assumption) | assumption)
                                        obtain ⟨ad260, e260, hx260_0⟩ := Kd.at_int (Kd.R_reads' HO_3.out).2.2 0 p260 q260
                                        cases e260
                                        have qi260 : (0 < x3_1.length) = True := eq_true (by omega)
                                        (try rw [show ((0 : Int)).toNat = 0 from rfl] at hx260_0)
                                        (try rw [Addr.add_zero'] at hx260_0)
                                        replace p260 := eq_true p260
                                        replace q260 := eq_true q260
                                        go_wp2_with (first | ((with_reducible refine gate_callee (f := 82) rfl ?_); refine goesL_ (some 113) rfl rfl Tryd.func82 (by kernel_rfl) rfl #[.int .i64 (rd x3_1 0)] rfl (by (try simp only [List.map_toArray, List.map_cons, List.map_nil]); first | done | rfl | (simp only [List.length_drop, List.length_take]; rfl)) ?_; (with_reducible refine (sort_on.calls (rd x3_1 0) t261 _ A72.out).mono ?_); rintro e w' ⟨rfl, ⟨nd, rfl⟩⟩; refine ⟨_, rfl, ?_⟩; have p262 : 0 ≤ (1 : Int) := (by omega); have q262 : 1 < (x3_1.length : Int) := of_decide_eq_true (by first | (with_reducible assumption) | assumption); obtain ⟨ad262, e262, hx262_0⟩ := Kd.at_int (Kd.R_reads' HO_3.out).2.2 1 p262 q262; obtain rfl : ad260 = ad262 := (by injection e262); (try simp only [show (1 : Int).toNat = 1 from rfl, Nat.reduceMul, Nat.reduceEqDiff, Go.Addr.add, ↓reduceIte] at hx262_0); have qi262 : (1 < x3_1.length) = True := eq_true (by omega); (try rw [show ((1 : Int)).toNat = 1 from rfl] at hx262_0); replace p262 := eq_true p262; replace q262 := eq_true q262))
                                        go_ret
                                        exact ⟨by first | rfl | (simp [errW_none, errW_some] <;> rfl) | (simp [*, errW_none, errW_some] <;> rfl), by repeat (first | (with_reducible first | exact HB.out | apply below_alloc | apply pw_below_drewN | apply below_drew1) | exact HB.out)⟩
                                      · rw [if_neg c75] at H
                                        have c75b0 : ((rd x3_1 1) == 1) = false := beq_eq_false_iff_ne.mpr c75
                                        have c75b1 : ((rd x3_1 1) != 1) = true := bne_iff_ne.mpr c75
                                        obtain rfl := Option.some.inj H
                                        obtain ⟨Ao77, co77, eo77⟩ := Kd.R_slice HO_3.out
                                        subst eo77
                                        have p260 : 0 ≤ (0 : Int) := (by omega)
                                        have q260 : 0 < (x3_1.length : Int) := of_decide_eq_true (by first | (with_reducible assumption) | assumption)
                                        obtain ⟨ad260, e260, hx260_0⟩ := Kd.at_int (Kd.R_reads' HO_3.out).2.2 0 p260 q260
                                        cases e260
                                        have qi260 : (0 < x3_1.length) = True := eq_true (by omega)
                                        (try rw [show ((0 : Int)).toNat = 0 from rfl] at hx260_0)
                                        (try rw [Addr.add_zero'] at hx260_0)
                                        replace p260 := eq_true p260
                                        replace q260 := eq_true q260
                                        go_wp2_with (first | ((with_reducible refine gate_callee (f := 82) rfl ?_); refine goesL_ (some 113) rfl rfl Tryd.func82 (by kernel_rfl) rfl #[.int .i64 (rd x3_1 0)] rfl (by (try simp only [List.map_toArray, List.map_cons, List.map_nil]); first | done | rfl | (simp only [List.length_drop, List.length_take]; rfl)) ?_; (with_reducible refine (sort_on.calls (rd x3_1 0) t261 _ A72.out).mono ?_); rintro e w' ⟨rfl, ⟨nd, rfl⟩⟩; refine ⟨_, rfl, ?_⟩; have p262 : 0 ≤ (1 : Int) := (by omega); have q262 : 1 < (x3_1.length : Int) := of_decide_eq_true (by first | (with_reducible assumption) | assumption); obtain ⟨ad262, e262, hx262_0⟩ := Kd.at_int (Kd.R_reads' HO_3.out).2.2 1 p262 q262; obtain rfl : ad260 = ad262 := (by injection e262); (try simp only [show (1 : Int).toNat = 1 from rfl, Nat.reduceMul, Nat.reduceEqDiff, Go.Addr.add, ↓reduceIte] at hx262_0); have qi262 : (1 < x3_1.length) = True := eq_true (by omega); (try rw [show ((1 : Int)).toNat = 1 from rfl] at hx262_0); replace p262 := eq_true p262; replace q262 := eq_true q262))
                                        go_ret
                                        exact ⟨by first | rfl | (simp [errW_none, errW_some] <;> rfl) | (simp [*, errW_none, errW_some] <;> rfl), by repeat (first | (with_reducible first | exact HB.out | apply below_alloc | apply pw_below_drewN | apply below_drew1) | exact HB.out)⟩
                                    · rw [if_neg c74] at H
                                      exact absurd H (by simp)
                                  · rw [if_neg c73] at H
                                    have c73b0 : (t261 == 3) = false := beq_eq_false_iff_ne.mpr c73
                                    have c73b1 : (t261 != 3) = true := bne_iff_ne.mpr c73
                                    obtain rfl := Option.some.inj H
                                    obtain ⟨Ao78, co78, eo78⟩ := Kd.R_slice HO_3.out
                                    subst eo78
                                    have p260 : 0 ≤ (0 : Int) := (by omega)
                                    have q260 : 0 < (x3_1.length : Int) := of_decide_eq_true (by first | (with_reducible assumption) | assumption)
                                    obtain ⟨ad260, e260, hx260_0⟩ := Kd.at_int (Kd.R_reads' HO_3.out).2.2 0 p260 q260
                                    cases e260
                                    have qi260 : (0 < x3_1.length) = True := eq_true (by omega)
                                    (try rw [show ((0 : Int)).toNat = 0 from rfl] at hx260_0)
                                    (try rw [Addr.add_zero'] at hx260_0)
                                    replace p260 := eq_true p260
                                    replace q260 := eq_true q260
                                    go_wp2_with (first | ((with_reducible refine gate_callee (f := 82) rfl ?_); refine goesL_ (some 113) rfl rfl Tryd.func82 (by kernel_rfl) rfl #[.int .i64 (rd x3_1 0)] rfl (by (try simp only [List.map_toArray, List.map_cons, List.map_nil]); first | done | rfl | (simp only [List.length_drop, List.length_take]; rfl)) ?_; (with_reducible refine (sort_on.calls (rd x3_1 0) t261 _ A72.out).mono ?_); rintro e w' ⟨rfl, ⟨nd, rfl⟩⟩; refine ⟨_, rfl, ?_⟩))
                                    go_ret
                                    exact ⟨by first | rfl | (simp [errW_none, errW_some] <;> rfl) | (simp [*, errW_none, errW_some] <;> rfl), by repeat (first | (with_reducible first | exact HB.out | apply below_alloc | apply pw_below_drewN | apply below_drew1) | exact HB.out)⟩
                                · rw [if_neg c71] at H
                                  exact absurd H (by simp)
                              · rw [if_neg c70] at H
                                have c70b0 : (((rd_T48 l0 0).f0) == 12) = false := beq_eq_false_iff_ne.mpr c70
                                have c70b1 : (((rd_T48 l0 0).f0) != 12) = true := bne_iff_ne.mpr c70
                                by_cases c79 : ((rd_T48 l0 0).f0) = 13
                                · rw [if_pos c79] at H
                                  have c79b0 : (((rd_T48 l0 0).f0) == 13) = true := beq_iff_eq.mpr c79
                                  have c79b1 : (((rd_T48 l0 0).f0) != 13) = false := bne_eq_false_iff_eq.mpr c79
                                  clear c79
                                  have HC80 := Aside0.mk H
                                  clear H
                                  go_upto_region 38 with (fail)
                                  go_cut [131] (fun v131 wc => ∃ (kq : Nat) (x131_79 : Bool), v131 = .bool x131_79 ∧ Aside0 (sort_sort.j4 kq x131_79 = some r) ∧ Aside0 (kq ≤ kj14) ∧ Aside0 (Below w.heap.size w wc))
                                  case first =>
                                    have H := HC80.out
                                    clear HC80
                                    by_cases c81 : 0 < (x3_1.length : Int)
                                    · rw [if_pos c81] at H
                                      have c81b0 : decide (0 < (x3_1.length : Int)) = true := decide_eq_true c81
                                      have c81b1 : decide (0 < x3_1.length) = true := decide_eq_true (by omega)
                                      clear c81
                                      (first | rw [c81b0] | (simp only [i64_w, i32_w]; rw [c81b0]) | skip)
                                      replace H := Option.bind_eq_some_iff.mp H
                                      obtain ⟨t275, A820, H⟩ := H
                                      replace H : (if t275 = 4 then (if 1 < (x3_1.length : Int) then (sort_sort.j4 kj14 ((rd x3_1 1) == 1)) else (none)) else (sort_sort.j4 kj14 false)) = some r := H
                                      have A82 := Aside0.mk A820
                                      clear A820
                                      by_cases c83 : t275 = 4
                                      · rw [if_pos c83] at H
                                        have c83b0 : (t275 == 4) = true := beq_iff_eq.mpr c83
                                        have c83b1 : (t275 != 4) = false := bne_eq_false_iff_eq.mpr c83
                                        clear c83
                                        by_cases c84 : 1 < (x3_1.length : Int)
                                        · rw [if_pos c84] at H
                                          have c84b0 : decide (1 < (x3_1.length : Int)) = true := decide_eq_true c84
                                          have c84b1 : decide (1 < x3_1.length) = true := decide_eq_true (by omega)
                                          clear c84
                                          have H' := Aside0.mk H
                                          clear H
                                          obtain ⟨Ao85, co85, eo85⟩ := Kd.R_slice HO_3.out
                                          subst eo85
                                          have p274 : 0 ≤ (0 : Int) := (by omega)
                                          have q274 : 0 < (x3_1.length : Int) := of_decide_eq_true (by first | (with_reducible assumption) | assumption)
                                          obtain ⟨ad274, e274, hx274_0⟩ := Kd.at_int (Kd.R_reads' HO_3.out).2.2 0 p274 q274
                                          cases e274
                                          have qi274 : (0 < x3_1.length) = True := eq_true (by omega)
                                          (try rw [show ((0 : Int)).toNat = 0 from rfl] at hx274_0)
                                          (try rw [Addr.add_zero'] at hx274_0)
                                          replace p274 := eq_true p274
                                          replace q274 := eq_true q274
                                          go_wp2_with (first | ((with_reducible refine gate_callee (f := 82) rfl ?_); refine goesL_ (some 124) rfl rfl Tryd.func82 (by kernel_rfl) rfl #[.int .i64 (rd x3_1 0)] rfl (by (try simp only [List.map_toArray, List.map_cons, List.map_nil]); first | done | rfl | (simp only [List.length_drop, List.length_take]; rfl)) ?_; (with_reducible refine (sort_on.calls (rd x3_1 0) t275 _ A82.out).mono ?_); rintro e w' ⟨rfl, ⟨nd, rfl⟩⟩; refine ⟨_, rfl, ?_⟩; have p276 : 0 ≤ (1 : Int) := (by omega); have q276 : 1 < (x3_1.length : Int) := of_decide_eq_true (by first | (with_reducible assumption) | assumption); obtain ⟨ad276, e276, hx276_0⟩ := Kd.at_int (Kd.R_reads' HO_3.out).2.2 1 p276 q276; obtain rfl : ad274 = ad276 := (by injection e276); (try simp only [show (1 : Int).toNat = 1 from rfl, Nat.reduceMul, Nat.reduceEqDiff, Go.Addr.add, ↓reduceIte] at hx276_0); have qi276 : (1 < x3_1.length) = True := eq_true (by omega); (try rw [show ((1 : Int)).toNat = 1 from rfl] at hx276_0); replace p276 := eq_true p276; replace q276 := eq_true q276))
                                          go_meet
                                          case rel => exact ⟨_, (((rd x3_1 1) == 1)), (by first | rfl | (simp; done) | (simp [*]; done)), H', ⟨by have := HK1.out; have := HJ14.out; first | omega | exact Nat.le_refl _⟩, ⟨by repeat (first | (with_reducible first | exact HB.out | apply below_alloc | apply pw_below_drewN | apply below_drew1) | exact HB.out)⟩⟩
                                        · rw [if_neg c84] at H
                                          exact absurd H (by simp)
                                      · rw [if_neg c83] at H
                                        have c83b0 : (t275 == 4) = false := beq_eq_false_iff_ne.mpr c83
                                        have c83b1 : (t275 != 4) = true := bne_iff_ne.mpr c83
                                        have H' := Aside0.mk H
                                        clear H
                                        obtain ⟨Ao86, co86, eo86⟩ := Kd.R_slice HO_3.out
                                        subst eo86
                                        have p274 : 0 ≤ (0 : Int) := (by omega)
                                        have q274 : 0 < (x3_1.length : Int) := of_decide_eq_true (by first | (with_reducible assumption) | assumption)
                                        obtain ⟨ad274, e274, hx274_0⟩ := Kd.at_int (Kd.R_reads' HO_3.out).2.2 0 p274 q274
                                        cases e274
                                        have qi274 : (0 < x3_1.length) = True := eq_true (by omega)
                                        (try rw [show ((0 : Int)).toNat = 0 from rfl] at hx274_0)
                                        (try rw [Addr.add_zero'] at hx274_0)
                                        replace p274 := eq_true p274
                                        replace q274 := eq_true q274
                                        go_wp2_with (first | ((with_reducible refine gate_callee (f := 82) rfl ?_); refine goesL_ (some 124) rfl rfl Tryd.func82 (by kernel_rfl) rfl #[.int .i64 (rd x3_1 0)] rfl (by (try simp only [List.map_toArray, List.map_cons, List.map_nil]); first | done | rfl | (simp only [List.length_drop, List.length_take]; rfl)) ?_; (with_reducible refine (sort_on.calls (rd x3_1 0) t275 _ A82.out).mono ?_); rintro e w' ⟨rfl, ⟨nd, rfl⟩⟩; refine ⟨_, rfl, ?_⟩))
                                        go_meet
                                        case rel => exact ⟨_, (false), (by first | rfl | (simp; done) | (simp [*]; done)), H', ⟨by have := HK1.out; have := HJ14.out; first | omega | exact Nat.le_refl _⟩, ⟨by repeat (first | (with_reducible first | exact HB.out | apply below_alloc | apply pw_below_drewN | apply below_drew1) | exact HB.out)⟩⟩
                                    · rw [if_neg c81] at H
                                      exact absurd H (by simp)
                                  case rest =>
                                    clear HC80
                                    try clear p2
                                    try clear q2
                                    try clear hx2
                                    try clear qi2
                                    try clear c3
                                    try clear c4
                                    try clear c5
                                    try clear c6
                                    try clear p6
                                    try clear c7
                                    try clear c8
                                    try clear c9
                                    try clear p24
                                    try clear q24
                                    try clear hx24
                                    try clear qi24
                                    try clear p25
                                    try clear q25
                                    try clear hx25
                                    try clear qi25
                                    try clear p26
                                    try clear q26
                                    try clear hx26
                                    try clear qi26
                                    try clear p27
                                    try clear q27
                                    try clear hx27
                                    try clear qi27
                                    try clear c35
                                    try clear c35b0
                                    try clear c35b1
                                    try clear c36
                                    try clear c37
                                    try clear c42
                                    try clear c42b0
                                    try clear c42b1
                                    try clear c43
                                    try clear c43b0
                                    try clear c43b1
                                    try clear c44
                                    try clear c44b0
                                    try clear c44b1
                                    try clear c50
                                    try clear c50b0
                                    try clear c50b1
                                    try clear c51
                                    try clear c51b0
                                    try clear c51b1
                                    try clear c52
                                    try clear c52b0
                                    try clear c52b1
                                    try clear c56
                                    try clear c56b0
                                    try clear c56b1
                                    try clear c57
                                    try clear c57b0
                                    try clear c57b1
                                    try clear c59
                                    try clear c59b0
                                    try clear c59b1
                                    try clear c62
                                    try clear c62b0
                                    try clear c62b1
                                    try clear c64
                                    try clear c64b0
                                    try clear c64b1
                                    try clear p64
                                    try clear c65
                                    try clear c65b0
                                    try clear c65b1
                                    try clear c66
                                    try clear c66b0
                                    try clear c66b1
                                    try clear c69
                                    try clear c70
                                    try clear c70b0
                                    try clear c70b1
                                    try clear c71
                                    try clear c71b0
                                    try clear c71b1
                                    try clear c73
                                    try clear c73b0
                                    try clear c73b1
                                    try clear c74
                                    try clear c74b0
                                    try clear c74b1
                                    try clear c75
                                    try clear c75b0
                                    try clear c75b1
                                    try clear c79
                                    try clear c79b0
                                    try clear c79b1
                                    try clear c81
                                    try clear c81b0
                                    try clear c81b1
                                    try clear c82
                                    try clear c83
                                    try clear c83b0
                                    try clear c83b1
                                    try clear c84
                                    try clear c84b0
                                    try clear c84b1
                                    try clear hx248_0
                                    try clear hx249_0
                                    try clear hx251_0
                                    try clear hx252_0
                                    try clear hx254_0
                                    try clear hx255_0
                                    try clear hx257_0
                                    try clear hx259_0
                                    try clear hx260_0
                                    try clear hx262_0
                                    try clear hx269_0
                                    try clear hx270_0
                                    try clear hx272_0
                                    try clear hx273_0
                                    try clear hx274_0
                                    try clear hx276_0
                                    try clear p2
                                    try clear p24
                                    try clear p248
                                    try clear p249
                                    try clear p25
                                    try clear p251
                                    try clear p252
                                    try clear p254
                                    try clear p255
                                    try clear p257
                                    try clear p259
                                    try clear p26
                                    try clear p260
                                    try clear p262
                                    try clear p269
                                    try clear p27
                                    try clear p270
                                    try clear p272
                                    try clear p273
                                    try clear p274
                                    try clear p276
                                    try clear p6
                                    try clear p64
                                    try clear q2
                                    try clear q24
                                    try clear q248
                                    try clear q249
                                    try clear q25
                                    try clear q251
                                    try clear q252
                                    try clear q254
                                    try clear q255
                                    try clear q257
                                    try clear q259
                                    try clear q26
                                    try clear q260
                                    try clear q262
                                    try clear q269
                                    try clear q27
                                    try clear q270
                                    try clear q272
                                    try clear q273
                                    try clear q274
                                    try clear q276
                                    obtain ⟨kq, x131_79, rfl, HA, HJ79, HB⟩ := hcut
                                    cases kq with
                                    | zero => exact absurd HA.out (by simp [sort_sort.j4])
                                    | succ kj79 =>
                                      have H := HA.out
                                      clear HA
                                      simp only [sort_sort.j4] at H
                                      by_cases c87 : x131_79 = true
                                      · subst c87
                                        have H1 : (some 4) = some r := by rw [if_pos rfl] at H; exact H
                                        clear H
                                        have H := H1
                                        clear H1
                                        obtain rfl := Option.some.inj H
                                        go_wp2
                                        go_ret
                                        exact ⟨by first | rfl | (simp [errW_none, errW_some] <;> rfl) | (simp [*, errW_none, errW_some] <;> rfl), by repeat (first | (with_reducible first | exact HB.out | apply below_alloc | apply pw_below_drewN | apply below_drew1) | exact HB.out)⟩
                                      · replace c87 := Bool.eq_false_iff.mpr c87
                                        subst c87
                                        have H1 : (some 0) = some r := by rw [if_neg (show ¬ (false = true) by decide)] at H; exact H
                                        clear H
                                        have H := H1
                                        clear H1
                                        obtain rfl := Option.some.inj H
                                        go_wp2
                                        go_ret
                                        exact ⟨by first | rfl | (simp [errW_none, errW_some] <;> rfl) | (simp [*, errW_none, errW_some] <;> rfl), by repeat (first | (with_reducible first | exact HB.out | apply below_alloc | apply pw_below_drewN | apply below_drew1) | exact HB.out)⟩
                                · rw [if_neg c79] at H
                                  have c79b0 : (((rd_T48 l0 0).f0) == 13) = false := beq_eq_false_iff_ne.mpr c79
                                  have c79b1 : (((rd_T48 l0 0).f0) != 13) = true := bne_iff_ne.mpr c79
                                  by_cases c88 : ((rd_T48 l0 0).f0) = 14
                                  · rw [if_pos c88] at H
                                    have c88b0 : (((rd_T48 l0 0).f0) == 14) = true := beq_iff_eq.mpr c88
                                    have c88b1 : (((rd_T48 l0 0).f0) != 14) = false := bne_eq_false_iff_eq.mpr c88
                                    clear c88
                                    by_cases c89 : 0 < (x3_1.length : Int)
                                    · rw [if_pos c89] at H
                                      have c89b0 : decide (0 < (x3_1.length : Int)) = true := decide_eq_true c89
                                      have c89b1 : decide (0 < x3_1.length) = true := decide_eq_true (by omega)
                                      clear c89
                                      by_cases c90 : (rd x3_1 0) = 1
                                      · rw [if_pos c90] at H
                                        have c90b0 : ((rd x3_1 0) == 1) = true := beq_iff_eq.mpr c90
                                        have c90b1 : ((rd x3_1 0) != 1) = false := bne_eq_false_iff_eq.mpr c90
                                        clear c90
                                        obtain rfl := Option.some.inj H
                                        obtain ⟨Ao91, co91, eo91⟩ := Kd.R_slice HO_3.out
                                        subst eo91
                                        have p263 : 0 ≤ (0 : Int) := (by omega)
                                        have q263 : 0 < (x3_1.length : Int) := of_decide_eq_true (by first | (with_reducible assumption) | assumption)
                                        obtain ⟨ad263, e263, hx263_0⟩ := Kd.at_int (Kd.R_reads' HO_3.out).2.2 0 p263 q263
                                        cases e263
                                        have qi263 : (0 < x3_1.length) = True := eq_true (by omega)
                                        (try rw [show ((0 : Int)).toNat = 0 from rfl] at hx263_0)
                                        (try rw [Addr.add_zero'] at hx263_0)
                                        replace p263 := eq_true p263
                                        replace q263 := eq_true q263
                                        go_wp2
                                        go_ret
                                        exact ⟨by first | rfl | (simp [errW_none, errW_some] <;> rfl) | (simp [*, errW_none, errW_some] <;> rfl), by repeat (first | (with_reducible first | exact HB.out | apply below_alloc | apply pw_below_drewN | apply below_drew1) | exact HB.out)⟩
                                      · rw [if_neg c90] at H
                                        have c90b0 : ((rd x3_1 0) == 1) = false := beq_eq_false_iff_ne.mpr c90
                                        have c90b1 : ((rd x3_1 0) != 1) = true := bne_iff_ne.mpr c90
                                        obtain rfl := Option.some.inj H
                                        obtain ⟨Ao92, co92, eo92⟩ := Kd.R_slice HO_3.out
                                        subst eo92
                                        have p263 : 0 ≤ (0 : Int) := (by omega)
                                        have q263 : 0 < (x3_1.length : Int) := of_decide_eq_true (by first | (with_reducible assumption) | assumption)
                                        obtain ⟨ad263, e263, hx263_0⟩ := Kd.at_int (Kd.R_reads' HO_3.out).2.2 0 p263 q263
                                        cases e263
                                        have qi263 : (0 < x3_1.length) = True := eq_true (by omega)
                                        (try rw [show ((0 : Int)).toNat = 0 from rfl] at hx263_0)
                                        (try rw [Addr.add_zero'] at hx263_0)
                                        replace p263 := eq_true p263
                                        replace q263 := eq_true q263
                                        go_wp2
                                        go_ret
                                        exact ⟨by first | rfl | (simp [errW_none, errW_some] <;> rfl) | (simp [*, errW_none, errW_some] <;> rfl), by repeat (first | (with_reducible first | exact HB.out | apply below_alloc | apply pw_below_drewN | apply below_drew1) | exact HB.out)⟩
                                    · rw [if_neg c89] at H
                                      exact absurd H (by simp)
                                  · rw [if_neg c88] at H
                                    have c88b0 : (((rd_T48 l0 0).f0) == 14) = false := beq_eq_false_iff_ne.mpr c88
                                    have c88b1 : (((rd_T48 l0 0).f0) != 14) = true := bne_iff_ne.mpr c88
                                    obtain rfl := Option.some.inj H
                                    go_wp2
                                    go_ret
                                    exact ⟨by first | rfl | (simp [errW_none, errW_some] <;> rfl) | (simp [*, errW_none, errW_some] <;> rfl), by repeat (first | (with_reducible first | exact HB.out | apply below_alloc | apply pw_below_drewN | apply below_drew1) | exact HB.out)⟩
        · rw [if_neg c14] at H
          exact absurd H (by simp)

end Go.Proofs.YtefiadocljnpjaaDoor.PK
-- Of this seat's own make: written by a program of this session's repo (wip/inject.py) over the kit's printer, with some functions given by hand.
namespace Go.Proofs.YtefiadocljnpjaaDoor.PK
open Go.RowKit Go.Proofs.YtefiadocljnpjaaDoorW.PrintWords Go.Proofs.YtefiadocljnpjaaDoorW.PrintLast Go.Proofs.YtefiadocljnpjaaDoorW.PrintMore
attribute [local go_sem] max2_int min2_int max_two min_two max_three min_three max_four min_four   -- for this text's walks alone
set_option linter.unusedVariables false
set_option linter.unusedSimpArgs false

-- NOT PRINTED: function 52 (sort_Of)

-- NOT PRINTED: function 54 (sort_On)

-- NOT PRINTED: function 56 (sort_Term)

-- NOT PRINTED: function 57 (sort_Right)

/-! ### redressref04_Texts: function 59 -/
def redressref04_Texts.l0 : Nat → List ByteArray → List ByteArray → Int → Option (Bool)
  | 0, _, _, _ => none
  | k + 1, x0, x1, x5 => if x5 < (x0.length : Int) then (if 0 ≤ x5 then (if x5 < (x1.length : Int) then (if (rdOf ByteArray.empty x0 x5).toList = (rdOf ByteArray.empty x1 x5).toList then (redressref04_Texts.l0 k x0 x1 (wrap64 (x5 + 1))) else (some false)) else (none)) else (none)) else (some true)
def redressref04_Texts.f (k : Nat) (l0 : List ByteArray) (l1 : List ByteArray) : Option (Bool) := if (l0.length : Int) = (l1.length : Int) then (redressref04_Texts.l0 k l0 l1 0) else (some false)
theorem redressref04_Texts.mono_l : ∀ k, (∀ y0 y1 y2, LeO (redressref04_Texts.l0 k y0 y1 y2) (redressref04_Texts.l0 (k + 1) y0 y1 y2))
  | 0 => fun _ _ _ r h => by simp [redressref04_Texts.l0] at h
  | k + 1 => by
    have ih0 := redressref04_Texts.mono_l k
    · intro y0 y1 y2
      unfold redressref04_Texts.l0
      repeat' first
      | (with_reducible exact ih0 _ _ _)
      | (with_reducible exact LeO.refl _)
      | (with_reducible exact LeO.none _)
      | (with_reducible refine LeO.ite ?_ ?_)
      | (with_reducible refine LeO.bind ?_ (fun _ => ?_))
      | exact ih0 _ _ _
      | exact LeO.none _
      | refine LeO.ite ?_ ?_
      | refine LeO.bind ?_ (fun _ => ?_)
theorem redressref04_Texts.mono : ∀ a0 a1 k, LeO (redressref04_Texts.f k a0 a1) (redressref04_Texts.f (k + 1) a0 a1) := by
  intro a0 a1 k
  have ih0 := redressref04_Texts.mono_l k
  unfold redressref04_Texts.f
  repeat' first
      | (with_reducible exact ih0 _ _ _)
      | (with_reducible exact LeO.refl _)
      | (with_reducible exact LeO.none _)
      | (with_reducible refine LeO.ite ?_ ?_)
      | (with_reducible refine LeO.bind ?_ (fun _ => ?_))
      | exact ih0 _ _ _
      | exact LeO.none _
      | refine LeO.ite ?_ ?_
      | refine LeO.bind ?_ (fun _ => ?_)
set_option maxHeartbeats 8000000 in
set_option maxRecDepth 100000 in
theorem redressref04_Texts.calls (k : Nat) (A0 : Option Addr) (c0 : Nat) (l0 : List ByteArray) (A1 : Option Addr) (c1 : Nat) (l1 : List ByteArray) (r : Bool) (w : World) (hr0 : Kd.C Kd.string w A0 l0.length l0) (hc0 : l0.length ≤ c0) (hr1 : Kd.C Kd.string w A1 l1.length l1) (hc1 : l1.length ≤ c1) (h : redressref04_Texts.f k l0 l1 = some r) :
    Calls Tryd.prog 59 #[.slice A0 l0.length c0, .slice A1 l1.length c1] w fun e w' => e = .returned (.bool r) ∧ Drawn0 w w' := by
  have HR0 := Aside0.mk hr0
  have HC0 := Aside0.mk hc0
  clear hr0 hc0
  have HR1 := Aside0.mk hr1
  have HC1 := Aside0.mk hc1
  clear hr1 hc1
  have H : (if (l0.length : Int) = (l1.length : Int) then (redressref04_Texts.l0 k l0 l1 0) else (some false)) = some r := h
  clear h
  by_cases c3 : (l0.length : Int) = (l1.length : Int)
  · rw [if_pos c3] at H
    have c3b0 : ((l0.length : Int) == (l1.length : Int)) = true := beq_iff_eq.mpr c3
    have c3b1 : ((l0.length : Int) != (l1.length : Int)) = false := bne_eq_false_iff_eq.mpr c3
    have c3b2 : (l0.length == l1.length) = true := by first | simpa using c3 | (simp at c3 ⊢; omega)
    clear c3
    have H' := Aside0.mk H
    clear H
    go_enter Tryd.func59, Tryd.ntmps59
    go_wp2
    repeat (go_quiet (fail); try go_wp2)
    go_loopg [5] k (fun kq v5 w' => ∃ (x5_1 : Int), v5 = .int .i64 x5_1 ∧ Aside0 (redressref04_Texts.l0 kq l0 l1 x5_1 = some r) ∧ Aside0 (kq ≤ k) ∧ Drawn0 w w')
    case atStart => exact ⟨(0), (by first | rfl | (simp; done) | (simp [*]; done)), H', ⟨Nat.le_refl _⟩, by repeat (first | exact Drawn0.refl _ | apply Drawn0.step)⟩
    case round =>
      clear H'
      try clear c1
      try clear p2
      try clear c3
      try clear c3b0
      try clear c3b1
      try clear c3b2
      obtain ⟨x5_1, rfl, HA, HK1, ⟨m1, rfl⟩⟩ := hrel
      cases gk with
      | zero => exact absurd HA.out (by simp [redressref04_Texts.l0])
      | succ k1 =>
        have H := HA.out
        clear HA
        simp only [redressref04_Texts.l0] at H
        by_cases c4 : x5_1 < (l0.length : Int)
        · rw [if_pos c4] at H
          have c4b0 : decide (x5_1 < (l0.length : Int)) = true := decide_eq_true c4
          clear c4
          by_cases c5 : 0 ≤ x5_1
          · rw [if_pos c5] at H
            have c5b0 : decide (0 ≤ x5_1) = true := decide_eq_true c5
            clear c5
            by_cases c6 : x5_1 < (l1.length : Int)
            · rw [if_pos c6] at H
              have c6b0 : decide (x5_1 < (l1.length : Int)) = true := decide_eq_true c6
              clear c6
              by_cases c7 : (rdOf ByteArray.empty l0 x5_1).toList = (rdOf ByteArray.empty l1 x5_1).toList
              · rw [if_pos c7] at H
                have c7b0 : ((rdOf ByteArray.empty l0 x5_1).toList == (rdOf ByteArray.empty l1 x5_1).toList) = true := beq_iff_eq.mpr c7
                have c7b1 : ((rdOf ByteArray.empty l0 x5_1).toList != (rdOf ByteArray.empty l1 x5_1).toList) = false := bne_eq_false_iff_eq.mpr c7
                clear c7
                have H' := Aside0.mk H
                clear H
                have p277 : 0 ≤ (x5_1 : Int) := of_decide_eq_true (by first | (with_reducible assumption) | assumption)
                have q277 : x5_1 < (l0.length : Int) := of_decide_eq_true (by first | (with_reducible assumption) | assumption)
                obtain ⟨ad277, e277, hx277_0⟩ := Kd.at_string HR0.out x5_1 p277 q277
                cases e277
                replace p277 := eq_true p277
                replace q277 := eq_true q277
                have p278 : 0 ≤ (x5_1 : Int) := of_decide_eq_true (by first | (with_reducible assumption) | assumption)
                have q278 : x5_1 < (l1.length : Int) := of_decide_eq_true (by first | (with_reducible assumption) | assumption)
                obtain ⟨ad278, e278, hx278_0⟩ := Kd.at_string HR1.out x5_1 p278 q278
                cases e278
                replace p278 := eq_true p278
                replace q278 := eq_true q278
                go_wp2
                repeat (go_quiet (fail); try go_wp2)
                go_roundg k1
                case measure => have := HK1.out; omega
                case rel => exact ⟨(wrap64 (x5_1 + 1)), (by first | rfl | (simp; done) | (simp [*]; done)), H', ⟨by have := HK1.out; omega⟩, by repeat (first | exact Drawn0.refl _ | apply Drawn0.step)⟩
              · rw [if_neg c7] at H
                have c7b0 : ((rdOf ByteArray.empty l0 x5_1).toList == (rdOf ByteArray.empty l1 x5_1).toList) = false := beq_eq_false_iff_ne.mpr c7
                have c7b1 : ((rdOf ByteArray.empty l0 x5_1).toList != (rdOf ByteArray.empty l1 x5_1).toList) = true := bne_iff_ne.mpr c7
                obtain rfl := Option.some.inj H
                have p277 : 0 ≤ (x5_1 : Int) := of_decide_eq_true (by first | (with_reducible assumption) | assumption)
                have q277 : x5_1 < (l0.length : Int) := of_decide_eq_true (by first | (with_reducible assumption) | assumption)
                obtain ⟨ad277, e277, hx277_0⟩ := Kd.at_string HR0.out x5_1 p277 q277
                cases e277
                replace p277 := eq_true p277
                replace q277 := eq_true q277
                have p278 : 0 ≤ (x5_1 : Int) := of_decide_eq_true (by first | (with_reducible assumption) | assumption)
                have q278 : x5_1 < (l1.length : Int) := of_decide_eq_true (by first | (with_reducible assumption) | assumption)
                obtain ⟨ad278, e278, hx278_0⟩ := Kd.at_string HR1.out x5_1 p278 q278
                cases e278
                replace p278 := eq_true p278
                replace q278 := eq_true q278
                go_wp2
                repeat (go_quiet (fail); try go_wp2)
                go_ret
                exact ⟨by first | rfl | (simp; done) | (simp [*]; done), by repeat (first | exact Drawn0.refl _ | apply Drawn0.step)⟩
            · rw [if_neg c6] at H
              exact absurd H (by simp)
          · rw [if_neg c5] at H
            exact absurd H (by simp)
        · rw [if_neg c4] at H
          have c4b0 : decide (x5_1 < (l0.length : Int)) = false := decide_eq_false c4
          clear c4
          obtain rfl := Option.some.inj H
          go_wp2
          repeat (go_quiet (fail); try go_wp2)
          go_ret
          exact ⟨by first | rfl | (simp; done) | (simp [*]; done), by repeat (first | exact Drawn0.refl _ | apply Drawn0.step)⟩
  · rw [if_neg c3] at H
    have c3b0 : ((l0.length : Int) == (l1.length : Int)) = false := beq_eq_false_iff_ne.mpr c3
    have c3b1 : ((l0.length : Int) != (l1.length : Int)) = true := bne_iff_ne.mpr c3
    have c3b2 : (l0.length == l1.length) = false := by first | simpa using c3 | (simp at c3 ⊢; omega)
    obtain rfl := Option.some.inj H
    go_enter Tryd.func59, Tryd.ntmps59
    go_wp2
    repeat (go_quiet (fail); try go_wp2)
    go_ret
    exact ⟨by first | rfl | (simp; done) | (simp [*]; done), by repeat (first | exact Drawn0.refl _ | apply Drawn0.step)⟩

end Go.Proofs.YtefiadocljnpjaaDoor.PK
-- Of this seat's own make: written by a program of this session's repo (wip/inject.py) over the kit's printer, with some functions given by hand.
namespace Go.Proofs.YtefiadocljnpjaaDoor.PK
open Go.RowKit Go.Proofs.YtefiadocljnpjaaDoorW.PrintWords Go.Proofs.YtefiadocljnpjaaDoorW.PrintLast Go.Proofs.YtefiadocljnpjaaDoorW.PrintMore
attribute [local go_sem] max2_int min2_int max_two min_two max_three min_three max_four min_four   -- for this text's walks alone
set_option linter.unusedVariables false
set_option linter.unusedSimpArgs false

/-! ### sort_Acts: function 60 -/
def sort_Acts.l0 : Nat → List ByteArray → List (S48) → Int → Int → Option (List ByteArray)
  | 0, _, _, _, _ => none
  | k + 1, x3, x6, x7, x8 => if x8 < x7 then (if 0 ≤ x8 then (if x8 < (x6.length : Int) then (if ((rd_T48 x6 x8).f0) = 1 then ((slices_Contains_string_string.f k x3 ((rd_T48 x6 x8).f1)).bind fun t281 => (if t281 = true then (sort_Acts.l0 k x3 x6 x7 (wrap64 (x8 + 1))) else (if x3.length < 8796093022208 then (sort_Acts.l0 k (x3 ++ [(rd_T48 x6 x8).f1]) x6 x7 (wrap64 (x8 + 1))) else (none)))) else (sort_Acts.l0 k x3 x6 x7 (wrap64 (x8 + 1)))) else (none)) else (none)) else (some x3)
def sort_Acts.f (k : Nat) (l0 : List (S48)) : Option (List ByteArray) := sort_Acts.l0 k ([] : List ByteArray) l0 (l0.length : Int) 0
theorem sort_Acts.mono_l : ∀ k, (∀ y0 y1 y2 y3, LeO (sort_Acts.l0 k y0 y1 y2 y3) (sort_Acts.l0 (k + 1) y0 y1 y2 y3))
  | 0 => fun _ _ _ _ r h => by simp [sort_Acts.l0] at h
  | k + 1 => by
    have ih0 := sort_Acts.mono_l k
    · intro y0 y1 y2 y3
      unfold sort_Acts.l0
      repeat' first
      | (with_reducible exact ih0 _ _ _ _)
      | (with_reducible exact slices_Contains_string_string.mono _ _ _)
      | (with_reducible exact LeO.refl _)
      | (with_reducible exact LeO.none _)
      | (with_reducible refine LeO.ite ?_ ?_)
      | (with_reducible refine LeO.bind ?_ (fun _ => ?_))
      | exact ih0 _ _ _ _
      | exact slices_Contains_string_string.mono _ _ _
      | exact LeO.none _
      | refine LeO.ite ?_ ?_
      | refine LeO.bind ?_ (fun _ => ?_)
theorem sort_Acts.mono : ∀ a0 k, LeO (sort_Acts.f k a0) (sort_Acts.f (k + 1) a0) := by
  intro a0 k
  have ih0 := sort_Acts.mono_l k
  unfold sort_Acts.f
  repeat' first
      | (with_reducible exact ih0 _ _ _ _)
      | (with_reducible exact slices_Contains_string_string.mono _ _ _)
      | (with_reducible exact LeO.refl _)
      | (with_reducible exact LeO.none _)
      | (with_reducible refine LeO.ite ?_ ?_)
      | (with_reducible refine LeO.bind ?_ (fun _ => ?_))
      | exact ih0 _ _ _ _
      | exact slices_Contains_string_string.mono _ _ _
      | exact LeO.none _
      | refine LeO.ite ?_ ?_
      | refine LeO.bind ?_ (fun _ => ?_)
set_option maxHeartbeats 8000000 in
set_option maxRecDepth 100000 in
theorem sort_Acts.calls (k : Nat) (A0 : Option Addr) (c0 : Nat) (l0 : List (S48)) (r : List ByteArray) (w : World) (hr0 : Kd.C k48 w A0 l0.length l0) (hc0 : l0.length ≤ c0) (h : sort_Acts.f k l0 = some r) :
    Calls Tryd.prog 60 #[.slice A0 l0.length c0] w fun e w' => ∃ v0_ : Value, e = .returned (v0_) ∧ Kd.R Kd.string 9 w' w.heap.size (fun _ => True) v0_ r ∧ Below w.heap.size w w' := by
  have hu48 := Tryd.underlying48
  have HR0 := Aside0.mk hr0
  have HC0 := Aside0.mk hc0
  clear hr0 hc0
  have HB := Aside0.mk (Below.refl w.heap.size w)
  have H : (sort_Acts.l0 k ([] : List ByteArray) l0 (l0.length : Int) 0) = some r := h
  clear h
  have H' := Aside0.mk H
  clear H
  go_enter Tryd.func60, Tryd.ntmps60
  go_wp2
  go_loopg [3, 8] k (fun kq v3 v8 w' => ∃ (x3_1 : List ByteArray) (x8_1 : Int), v8 = .int .i64 x8_1 ∧ Aside0 (sort_Acts.l0 kq x3_1 l0 (l0.length : Int) x8_1 = some r) ∧ Aside0 (kq ≤ k) ∧ Aside0 (Kd.R Kd.string 9 w' w.heap.size (fun _ => True) v3 x3_1) ∧ Aside0 (Below w.heap.size w w'))
  case atStart => exact ⟨(([] : List ByteArray)), (0), (by first | rfl | (simp; done) | (simp [*]; done)), H', ⟨Nat.le_refl _⟩, ⟨by first | exact Kd.R_nil _ _ _ _ _ | exact Kd.N_nil _ _ _ _ _ | exact Kd.V_nil _ _ _ _ _ | exact Kd.Q_nil _ _ _ _ _ | exact Kd.S_nil _ _ _ _ _⟩, ⟨by repeat (first | (with_reducible first | exact HB.out | apply below_alloc | apply pw_below_drewN | apply below_drew1) | exact HB.out)⟩⟩
  case round =>
    clear H'
    obtain ⟨x3_1, x8_1, rfl, HA, HK1, HO_3, HB⟩ := hrel
    cases gk with
    | zero => exact absurd HA.out (by simp [sort_Acts.l0])
    | succ k1 =>
      have H := HA.out
      clear HA
      simp only [sort_Acts.l0] at H
      by_cases c2 : x8_1 < (l0.length : Int)
      · rw [if_pos c2] at H
        have c2b0 : decide (x8_1 < (l0.length : Int)) = true := decide_eq_true c2
        clear c2
        by_cases c3 : 0 ≤ x8_1
        · rw [if_pos c3] at H
          have c3b0 : decide (0 ≤ x8_1) = true := decide_eq_true c3
          clear c3
          by_cases c4 : x8_1 < (l0.length : Int)
          · rw [if_pos c4] at H
            have c4b0 : decide (x8_1 < (l0.length : Int)) = true := decide_eq_true c4
            clear c4
            by_cases c5 : ((rd_T48 l0 x8_1).f0) = 1
            · rw [if_pos c5] at H
              have c5b0 : (((rd_T48 l0 x8_1).f0) == 1) = true := beq_iff_eq.mpr c5
              have c5b1 : (((rd_T48 l0 x8_1).f0) != 1) = false := bne_eq_false_iff_eq.mpr c5
              clear c5
              replace H := Option.bind_eq_some_iff.mp H
              obtain ⟨t281, A60, H⟩ := H
              replace H : (if t281 = true then (sort_Acts.l0 k1 x3_1 l0 (l0.length : Int) (wrap64 (x8_1 + 1))) else (if x3_1.length < 8796093022208 then (sort_Acts.l0 k1 (x3_1 ++ [(rd_T48 l0 x8_1).f1]) l0 (l0.length : Int) (wrap64 (x8_1 + 1))) else (none))) = some r := H
              have A6 := Aside0.mk A60
              clear A60
              by_cases c7 : t281 = true
              · subst c7
                have H1 : (sort_Acts.l0 k1 x3_1 l0 (l0.length : Int) (wrap64 (x8_1 + 1))) = some r := by rw [if_pos rfl] at H; exact H
                clear H
                have H := H1
                clear H1
                have H' := Aside0.mk H
                clear H
                have p279 : 0 ≤ (x8_1 : Int) := of_decide_eq_true (by first | (with_reducible assumption) | assumption)
                have q279 : x8_1 < (l0.length : Int) := of_decide_eq_true (by first | (with_reducible assumption) | assumption)
                obtain ⟨ad279, e279, hx279_0, hx279_1, hx279_2⟩ := at_T48 HR0.out x8_1 p279 q279
                cases e279
                replace hx279_0 := (HB.out.cell (World.block_lt_of_cell? w _ hx279_0)).trans hx279_0
                replace hx279_1 := (HB.out.cell (World.block_lt_of_cell? w _ hx279_1)).trans hx279_1
                replace hx279_2 := (HB.out.cell (World.block_lt_of_cell? w _ hx279_2)).trans hx279_2
                replace p279 := eq_true p279
                replace q279 := eq_true q279
                go_wp2_with (first | ((with_reducible refine gate_dst (N := 5) rfl ?_); refine box_event ?hg (N := 5) ?hd (cs := #[.int .i64 0, .string (⟨#[]⟩ : ByteArray), .int .i64 0]) (t := 48) ?hr ?_; (case hd => rfl); (case hg => rfl); (case hr => first | (go_simp; done) | (go_simp; rfl)); intro gb280 hg w8 hbox hb; have n0_ := Aside0.mk (Kd.R_below (by (with_reducible repeat (first | apply Kd.R_alloc | apply Kd.R_drewN | apply Kd.R_drew)); exact HO_3.out) hb); have n1_ := Aside0.mk (below_step (by repeat (first | (with_reducible first | exact HB.out | apply below_alloc | apply pw_below_drewN | apply below_drew1) | exact HB.out)) hb); have n2_ := Aside0.mk (hbox); have n3_ := Aside0.mk ((by rw [hg]; exact (below_size (by repeat (first | (with_reducible first | exact HB.out | apply below_alloc | apply pw_below_drewN | apply below_drew1) | exact HB.out))) : w.heap.size ≤ gb280)); have n4_ := Aside0.mk ((by rw [hg]; exact (below_size (by repeat (first | (with_reducible first | exact HB.out | apply below_alloc | apply pw_below_drewN | apply below_drew1) | exact HB.out))) : w.heap.size ≤ gb280)); clear HO_3; clear HB; have HO_3 := n0_; have HB := n1_; have BK280 := n2_; have GW280 := n3_; have GE280 := n4_; clear n0_ n1_ n2_ n3_ n4_; clear hb hbox hg; have hcz9_0 : w8.cell? ⟨gb280, 0, none⟩ = some (.int .i64 0) := (blk_cell BK280.out 0).trans rfl; have hcz9_1 : w8.cell? ⟨gb280, 1, none⟩ = some (.string (⟨#[]⟩ : ByteArray)) := (blk_cell BK280.out 1).trans rfl; have hcz9_2 : w8.cell? ⟨gb280, 2, none⟩ = some (.int .i64 0) := (blk_cell BK280.out 2).trans rfl; have hfz9_0 := blk_frozen BK280.out 0; have hfz9_1 := blk_frozen BK280.out 1; have hfz9_2 := blk_frozen BK280.out 2; obtain ⟨Ao10, co10, eo10⟩ := Kd.R_slice HO_3.out; subst eo10) | (go_at_call 83; (with_reducible refine (slices_Contains_string_string.calls k1 _ _ x3_1 ((rd_T48 l0 x8_1).f1) true _ ?side1 ?side2 A6.out).mono ?_); (case side1 => refine (Kd.R_reads' (e := 9) (base := w.heap.size) (ok := fun k_ => True) (n := x3_1.length) (c := co10) ?_).2.2; exact (by (with_reducible repeat (first | apply Kd.R_alloc | apply Kd.R_drewN | apply Kd.R_drew)); exact (Kd.R_mono (Kd.R_far (p := ⟨gb280, 2, none⟩) (Kd.R_far (p := ⟨gb280, 1, none⟩) (Kd.R_far (p := ⟨gb280, 0, none⟩) (Kd.R_types HO_3.out BK280.out (by decide)) (fun _ hk => hk.2) (.int .i64 ((rd_T48 l0 x8_1).f0))) (fun _ hk => hk.2) (.string ((rd_T48 l0 x8_1).f1))) (fun _ hk => hk.2) (.int .i64 ((rd_T48 l0 x8_1).f2))) (fun _ h_ => h_.1)))); (case side2 => exact (Kd.R_reads' HO_3.out).2.1); rintro e w' ⟨rfl, ⟨nd, rfl⟩⟩))
                go_roundg k1
                case measure => have := HK1.out; omega
                case rel => exact ⟨(x3_1), (wrap64 (x8_1 + 1)), (by first | rfl | (simp; done) | (simp [*]; done)), H', ⟨by have := HK1.out; omega⟩, ⟨by (with_reducible repeat (first | apply Kd.R_alloc | apply Kd.R_drewN | apply Kd.R_drew)); exact Kd.R_mono (Kd.R_far (p := ⟨gb280, 2, none⟩) (Kd.R_far (p := ⟨gb280, 1, none⟩) (Kd.R_far (p := ⟨gb280, 0, none⟩) (Kd.R_types HO_3.out BK280.out (by decide)) (fun _ hk => hk.2) (.int .i64 ((rd_T48 l0 x8_1).f0))) (fun _ hk => hk.2) (.string ((rd_T48 l0 x8_1).f1))) (fun _ hk => hk.2) (.int .i64 ((rd_T48 l0 x8_1).f2))) (fun _ hk => trivial)⟩, ⟨by repeat (first | (with_reducible first | exact HB.out | apply below_alloc | apply pw_below_drewN | apply below_drew1 | refine below_set ?_ GE280.out) | exact HB.out)⟩⟩
              · replace c7 := Bool.eq_false_iff.mpr c7
                subst c7
                have H1 : (if x3_1.length < 8796093022208 then (sort_Acts.l0 k1 (x3_1 ++ [(rd_T48 l0 x8_1).f1]) l0 (l0.length : Int) (wrap64 (x8_1 + 1))) else (none)) = some r := by rw [if_neg (show ¬ (false = true) by decide)] at H; exact H
                clear H
                have H := H1
                clear H1
                by_cases c11 : x3_1.length < 8796093022208
                · rw [if_pos c11] at H
                  have LMc11 := Aside0.mk c11
                  clear c11
                  obtain ⟨y282, hy282⟩ : ∃ y_ : List ByteArray, y_ = (x3_1 ++ [(rd_T48 l0 x8_1).f1]) := ⟨_, rfl⟩
                  replace H : (sort_Acts.l0 k1 y282 l0 (l0.length : Int) (wrap64 (x8_1 + 1))) = some r := by first | (rw [hy282]; with_reducible exact H) | (have H2_ := (Option.bind_some _ _).symm.trans H; rw [hy282]; with_reducible exact H2_) | (have H2_ := (Option.bind_some _ _).symm.trans H; with_reducible exact H2_) | with_reducible exact H | (rw [hy282]; exact H) | exact H
                  have Ny282 := Aside0.mk hy282
                  clear hy282
                  have H' := Aside0.mk H
                  clear H
                  have p279 : 0 ≤ (x8_1 : Int) := of_decide_eq_true (by first | (with_reducible assumption) | assumption)
                  have q279 : x8_1 < (l0.length : Int) := of_decide_eq_true (by first | (with_reducible assumption) | assumption)
                  obtain ⟨ad279, e279, hx279_0, hx279_1, hx279_2⟩ := at_T48 HR0.out x8_1 p279 q279
                  cases e279
                  replace hx279_0 := (HB.out.cell (World.block_lt_of_cell? w _ hx279_0)).trans hx279_0
                  replace hx279_1 := (HB.out.cell (World.block_lt_of_cell? w _ hx279_1)).trans hx279_1
                  replace hx279_2 := (HB.out.cell (World.block_lt_of_cell? w _ hx279_2)).trans hx279_2
                  replace p279 := eq_true p279
                  replace q279 := eq_true q279
                  go_wp2_with (first | ((with_reducible refine gate_dst (N := 5) rfl ?_); refine box_event ?hg (N := 5) ?hd (cs := #[.int .i64 0, .string (⟨#[]⟩ : ByteArray), .int .i64 0]) (t := 48) ?hr ?_; (case hd => rfl); (case hg => rfl); (case hr => first | (go_simp; done) | (go_simp; rfl)); intro gb280 hg w12 hbox hb; have n0_ := Aside0.mk (Kd.R_below (by (with_reducible repeat (first | apply Kd.R_alloc | apply Kd.R_drewN | apply Kd.R_drew)); exact HO_3.out) hb); have n1_ := Aside0.mk (below_step (by repeat (first | (with_reducible first | exact HB.out | apply below_alloc | apply pw_below_drewN | apply below_drew1) | exact HB.out)) hb); have n2_ := Aside0.mk (hbox); have n3_ := Aside0.mk ((by rw [hg]; exact (below_size (by repeat (first | (with_reducible first | exact HB.out | apply below_alloc | apply pw_below_drewN | apply below_drew1) | exact HB.out))) : w.heap.size ≤ gb280)); have n4_ := Aside0.mk ((by rw [hg]; exact (below_size (by repeat (first | (with_reducible first | exact HB.out | apply below_alloc | apply pw_below_drewN | apply below_drew1) | exact HB.out))) : w.heap.size ≤ gb280)); clear HO_3; clear HB; have HO_3 := n0_; have HB := n1_; have BK280 := n2_; have GW280 := n3_; have GE280 := n4_; clear n0_ n1_ n2_ n3_ n4_; clear hb hbox hg; have hcz13_0 : w12.cell? ⟨gb280, 0, none⟩ = some (.int .i64 0) := (blk_cell BK280.out 0).trans rfl; have hcz13_1 : w12.cell? ⟨gb280, 1, none⟩ = some (.string (⟨#[]⟩ : ByteArray)) := (blk_cell BK280.out 1).trans rfl; have hcz13_2 : w12.cell? ⟨gb280, 2, none⟩ = some (.int .i64 0) := (blk_cell BK280.out 2).trans rfl; have hfz13_0 := blk_frozen BK280.out 0; have hfz13_1 := blk_frozen BK280.out 1; have hfz13_2 := blk_frozen BK280.out 2; obtain ⟨Ao14, co14, eo14⟩ := Kd.R_slice HO_3.out; subst eo14) | (go_at_call 83; (with_reducible refine (slices_Contains_string_string.calls k1 _ _ x3_1 ((rd_T48 l0 x8_1).f1) false _ ?side1 ?side2 A6.out).mono ?_); (case side1 => refine (Kd.R_reads' (e := 9) (base := w.heap.size) (ok := fun k_ => True) (n := x3_1.length) (c := co14) ?_).2.2; exact (by (with_reducible repeat (first | apply Kd.R_alloc | apply Kd.R_drewN | apply Kd.R_drew)); exact (Kd.R_mono (Kd.R_far (p := ⟨gb280, 2, none⟩) (Kd.R_far (p := ⟨gb280, 1, none⟩) (Kd.R_far (p := ⟨gb280, 0, none⟩) (Kd.R_types HO_3.out BK280.out (by decide)) (fun _ hk => hk.2) (.int .i64 ((rd_T48 l0 x8_1).f0))) (fun _ hk => hk.2) (.string ((rd_T48 l0 x8_1).f1))) (fun _ hk => hk.2) (.int .i64 ((rd_T48 l0 x8_1).f2))) (fun _ h_ => h_.1)))); (case side2 => exact (Kd.R_reads' HO_3.out).2.1); rintro e w' ⟨rfl, ⟨nd, rfl⟩⟩) | ((with_reducible refine gate_builtin (b := .append) (xs := #[.tmp 22, .tmp 25]) rfl ?_); at_builtin; refine Kd.R_append Kd.string (w0 := w) w.heap.size rfl (.tmp 22) (.tmp 25) 43 9 (.string ⟨#[]⟩) 16 rfl Tryd.underlying43 info9 rfl (by decide) (by omega) (.slice Ao14 x3_1.length co14) x3_1 ((rd_T48 l0 x8_1).f1) [.string ((rd_T48 l0 x8_1).f1)] (fun _ => True) (fun _ => False) rfl (by first | (go_simp; done) | (go_simp; rfl)) ?aP (fun _ hk => hk.elim) ?aF ?aO ?aB ?aS ?aL ?_; (case aP => exact rfl); (case aB => exact (by repeat (first | (with_reducible first | exact HB.out | apply below_alloc | apply pw_below_drewN | apply below_drew1 | refine below_set ?_ GE280.out) | exact HB.out))); (case aF => exact (fun _ _ => trivial)); (case aO => exact (by (with_reducible repeat (first | apply Kd.R_alloc | apply Kd.R_drewN | apply Kd.R_drew)); exact Kd.R_mono (Kd.R_far (p := ⟨gb280, 2, none⟩) (Kd.R_far (p := ⟨gb280, 1, none⟩) (Kd.R_far (p := ⟨gb280, 0, none⟩) (Kd.R_types HO_3.out BK280.out (by decide)) (fun _ hk => hk.2) (.int .i64 ((rd_T48 l0 x8_1).f0))) (fun _ hk => hk.2) (.string ((rd_T48 l0 x8_1).f1))) (fun _ hk => hk.2) (.int .i64 ((rd_T48 l0 x8_1).f2))) (fun _ hk => trivial))); (case aS => exact (below_size (by repeat (first | (with_reducible first | exact HB.out | apply below_alloc | apply pw_below_drewN | apply below_drew1 | refine below_set ?_ GE280.out) | exact HB.out)))); (case aL => have := LMc11.out; omega); intro v283 w15 ho hb hg hat; rw [← Ny282.out] at ho; have n0_ := Aside0.mk (blk_grown (g := gb280) (o := .cells #[.int .i64 ((rd_T48 l0 x8_1).f0), .string ((rd_T48 l0 x8_1).f1), .int .i64 ((rd_T48 l0 x8_1).f2)] 48 (0, 0)) (by (with_reducible repeat (first | refine blk_drewN ?_ _ | refine blk_drew ?_ | refine blk_alloc ?_ _)); refine blk_put (cs := #[.int .i64 ((rd_T48 l0 x8_1).f0), .string ((rd_T48 l0 x8_1).f1), .int .i64 0]) ?_ 2 _ rfl; (with_reducible repeat (first | refine blk_drewN ?_ _ | refine blk_drew ?_ | refine blk_alloc ?_ _)); refine blk_put (cs := #[.int .i64 ((rd_T48 l0 x8_1).f0), .string (⟨#[]⟩ : ByteArray), .int .i64 0]) ?_ 1 _ rfl; (with_reducible repeat (first | refine blk_drewN ?_ _ | refine blk_drew ?_ | refine blk_alloc ?_ _)); refine blk_put (cs := #[.int .i64 0, .string (⟨#[]⟩ : ByteArray), .int .i64 0]) ?_ 0 _ rfl; (with_reducible repeat (first | refine blk_drewN ?_ _ | refine blk_drew ?_ | refine blk_alloc ?_ _)); exact BK280.out) hg (Kd.R_ne HO_3.out BK280.out (by decide))); have n1_ := Aside0.mk (hb); have n2_ := Aside0.mk (ho); clear BK280; clear HB; clear HO_3; have BK280 := n0_; have HB := n1_; have HO284 := n2_; clear n0_ n1_ n2_; clear ho hb hg hat))
                  go_roundg k1
                  case measure => have := HK1.out; omega
                  case rel => exact ⟨(y282), (wrap64 (x8_1 + 1)), (by first | rfl | (simp; done) | (simp [*]; done)), H', ⟨by have := HK1.out; omega⟩, ⟨by (with_reducible repeat (first | apply Kd.R_alloc | apply Kd.R_drewN | apply Kd.R_drew)); exact HO284.out⟩, ⟨by repeat (first | (with_reducible first | exact HB.out | apply below_alloc | apply pw_below_drewN | apply below_drew1 | refine below_set ?_ GE280.out) | exact HB.out)⟩⟩
                · rw [if_neg c11] at H
                  exact absurd H (by simp)
            · rw [if_neg c5] at H
              have c5b0 : (((rd_T48 l0 x8_1).f0) == 1) = false := beq_eq_false_iff_ne.mpr c5
              have c5b1 : (((rd_T48 l0 x8_1).f0) != 1) = true := bne_iff_ne.mpr c5
              have H' := Aside0.mk H
              clear H
              have p279 : 0 ≤ (x8_1 : Int) := of_decide_eq_true (by first | (with_reducible assumption) | assumption)
              have q279 : x8_1 < (l0.length : Int) := of_decide_eq_true (by first | (with_reducible assumption) | assumption)
              obtain ⟨ad279, e279, hx279_0, hx279_1, hx279_2⟩ := at_T48 HR0.out x8_1 p279 q279
              cases e279
              replace hx279_0 := (HB.out.cell (World.block_lt_of_cell? w _ hx279_0)).trans hx279_0
              replace hx279_1 := (HB.out.cell (World.block_lt_of_cell? w _ hx279_1)).trans hx279_1
              replace hx279_2 := (HB.out.cell (World.block_lt_of_cell? w _ hx279_2)).trans hx279_2
              replace p279 := eq_true p279
              replace q279 := eq_true q279
              go_wp2_with (first | ((with_reducible refine gate_dst (N := 5) rfl ?_); refine box_event ?hg (N := 5) ?hd (cs := #[.int .i64 0, .string (⟨#[]⟩ : ByteArray), .int .i64 0]) (t := 48) ?hr ?_; (case hd => rfl); (case hg => rfl); (case hr => first | (go_simp; done) | (go_simp; rfl)); intro gb280 hg w16 hbox hb; have n0_ := Aside0.mk (Kd.R_below (by (with_reducible repeat (first | apply Kd.R_alloc | apply Kd.R_drewN | apply Kd.R_drew)); exact HO_3.out) hb); have n1_ := Aside0.mk (below_step (by repeat (first | (with_reducible first | exact HB.out | apply below_alloc | apply pw_below_drewN | apply below_drew1) | exact HB.out)) hb); have n2_ := Aside0.mk (hbox); have n3_ := Aside0.mk ((by rw [hg]; exact (below_size (by repeat (first | (with_reducible first | exact HB.out | apply below_alloc | apply pw_below_drewN | apply below_drew1) | exact HB.out))) : w.heap.size ≤ gb280)); have n4_ := Aside0.mk ((by rw [hg]; exact (below_size (by repeat (first | (with_reducible first | exact HB.out | apply below_alloc | apply pw_below_drewN | apply below_drew1) | exact HB.out))) : w.heap.size ≤ gb280)); clear HO_3; clear HB; have HO_3 := n0_; have HB := n1_; have BK280 := n2_; have GW280 := n3_; have GE280 := n4_; clear n0_ n1_ n2_ n3_ n4_; clear hb hbox hg; have hcz17_0 : w16.cell? ⟨gb280, 0, none⟩ = some (.int .i64 0) := (blk_cell BK280.out 0).trans rfl; have hcz17_1 : w16.cell? ⟨gb280, 1, none⟩ = some (.string (⟨#[]⟩ : ByteArray)) := (blk_cell BK280.out 1).trans rfl; have hcz17_2 : w16.cell? ⟨gb280, 2, none⟩ = some (.int .i64 0) := (blk_cell BK280.out 2).trans rfl; have hfz17_0 := blk_frozen BK280.out 0; have hfz17_1 := blk_frozen BK280.out 1; have hfz17_2 := blk_frozen BK280.out 2))
              go_roundg k1
              case measure => have := HK1.out; omega
              case rel => exact ⟨(x3_1), (wrap64 (x8_1 + 1)), (by first | rfl | (simp; done) | (simp [*]; done)), H', ⟨by have := HK1.out; omega⟩, ⟨by (with_reducible repeat (first | apply Kd.R_alloc | apply Kd.R_drewN | apply Kd.R_drew)); exact Kd.R_mono (Kd.R_far (p := ⟨gb280, 2, none⟩) (Kd.R_far (p := ⟨gb280, 1, none⟩) (Kd.R_far (p := ⟨gb280, 0, none⟩) (Kd.R_types HO_3.out BK280.out (by decide)) (fun _ hk => hk.2) (.int .i64 ((rd_T48 l0 x8_1).f0))) (fun _ hk => hk.2) (.string ((rd_T48 l0 x8_1).f1))) (fun _ hk => hk.2) (.int .i64 ((rd_T48 l0 x8_1).f2))) (fun _ hk => trivial)⟩, ⟨by repeat (first | (with_reducible first | exact HB.out | apply below_alloc | apply pw_below_drewN | apply below_drew1 | refine below_set ?_ GE280.out) | exact HB.out)⟩⟩
          · rw [if_neg c4] at H
            exact absurd H (by simp)
        · rw [if_neg c3] at H
          exact absurd H (by simp)
      · rw [if_neg c2] at H
        have c2b0 : decide (x8_1 < (l0.length : Int)) = false := decide_eq_false c2
        clear c2
        obtain rfl := Option.some.inj H
        go_wp2
        go_ret
        exact ⟨_, by first | rfl | (simp [errW_none, errW_some] <;> rfl) | (simp [*, errW_none, errW_some] <;> rfl), by (with_reducible repeat (first | apply Kd.R_alloc | apply Kd.R_drewN | apply Kd.R_drew)); exact HO_3.out, by repeat (first | (with_reducible first | exact HB.out | apply below_alloc | apply pw_below_drewN | apply below_drew1) | exact HB.out)⟩

-- NOT PRINTED: function 51 (redresslaw04_alive)

-- NOT PRINTED: function 97 (redressref04_plain)

-- NOT PRINTED: function 98 (redressref04_paired)

-- NOT PRINTED: function 99 (redressref04_plainOn)

-- NOT PRINTED: function 100 (redressref04_pairedOn)

-- NOT PRINTED: function 81 (redressref04_Is)

-- NOT PRINTED: function 53 (redressref04_Of)

-- NOT PRINTED: function 55 (redressref04_On)

-- NOT PRINTED: function 15 (redresslaw04_SortOf)

-- NOT PRINTED: function 58 (redressref04_Right)

end Go.Proofs.YtefiadocljnpjaaDoor.PK
-- Of this seat's own make: written by a program of this session's repo (wip/inject.py) over the kit's printer, with some functions given by hand.
namespace Go.Proofs.YtefiadocljnpjaaDoor.PK
open Go.RowKit Go.Proofs.YtefiadocljnpjaaDoorW.PrintWords Go.Proofs.YtefiadocljnpjaaDoorW.PrintLast Go.Proofs.YtefiadocljnpjaaDoorW.PrintMore
attribute [local go_sem] max2_int min2_int max_two min_two max_three min_three max_four min_four   -- for this text's walks alone
set_option linter.unusedVariables false
set_option linter.unusedSimpArgs false

/-! ### redressref04_Acts: function 61 -/
mutual
def redressref04_Acts.l0 : Nat → List (S48) → List ByteArray → Int → Option (List ByteArray)
  | 0, _, _, _ => none
  | k + 1, x0, x3, x4 => if x4 < (x0.length : Int) then (if 0 ≤ x4 then (redressref04_Acts.l1 k x0 x3 x4 (((rd_T48 x0 x4).f0) != 1) 0) else (none)) else (some x3)
def redressref04_Acts.l1 : Nat → List (S48) → List ByteArray → Int → Bool → Int → Option (List ByteArray)
  | 0, _, _, _, _, _ => none
  | k + 1, x0, x3, x4, x5, x6 => if x6 < (x3.length : Int) then (if x5 = true then (redressref04_Acts.l1 k x0 x3 x4 true (wrap64 (x6 + 1))) else (if 0 ≤ x6 then (if 0 ≤ x4 then (if x4 < (x0.length : Int) then (redressref04_Acts.l1 k x0 x3 x4 ((rdOf ByteArray.empty x3 x6).toList == ((rd_T48 x0 x4).f1).toList) (wrap64 (x6 + 1))) else (none)) else (none)) else (none))) else (if x5 = true then (redressref04_Acts.l0 k x0 x3 (wrap64 (x4 + 1))) else (if 0 ≤ x4 then (if x4 < (x0.length : Int) then (if x3.length < 8796093022208 then (redressref04_Acts.l0 k x0 (x3 ++ [(rd_T48 x0 x4).f1]) (wrap64 (x4 + 1))) else (none)) else (none)) else (none)))
end
def redressref04_Acts.f (k : Nat) (l0 : List (S48)) : Option (List ByteArray) := redressref04_Acts.l0 k l0 ([] : List ByteArray) 0
theorem redressref04_Acts.mono_l : ∀ k, (∀ y0 y1 y2, LeO (redressref04_Acts.l0 k y0 y1 y2) (redressref04_Acts.l0 (k + 1) y0 y1 y2)) ∧ (∀ y0 y1 y2 y3 y4, LeO (redressref04_Acts.l1 k y0 y1 y2 y3 y4) (redressref04_Acts.l1 (k + 1) y0 y1 y2 y3 y4))
  | 0 => ⟨fun _ _ _ r h => by simp [redressref04_Acts.l0] at h, fun _ _ _ _ _ r h => by simp [redressref04_Acts.l1] at h⟩
  | k + 1 => by
    obtain ⟨ih0, ih1⟩ := redressref04_Acts.mono_l k
    refine ⟨?_, ?_⟩
    · intro y0 y1 y2
      unfold redressref04_Acts.l0
      repeat' first
      | (with_reducible exact ih0 _ _ _)
      | (with_reducible exact ih1 _ _ _ _ _)
      | (with_reducible exact LeO.refl _)
      | (with_reducible exact LeO.none _)
      | (with_reducible refine LeO.ite ?_ ?_)
      | (with_reducible refine LeO.bind ?_ (fun _ => ?_))
      | exact ih0 _ _ _
      | exact ih1 _ _ _ _ _
      | exact LeO.none _
      | refine LeO.ite ?_ ?_
      | refine LeO.bind ?_ (fun _ => ?_)
    · intro y0 y1 y2 y3 y4
      unfold redressref04_Acts.l1
      repeat' first
      | (with_reducible exact ih0 _ _ _)
      | (with_reducible exact ih1 _ _ _ _ _)
      | (with_reducible exact LeO.refl _)
      | (with_reducible exact LeO.none _)
      | (with_reducible refine LeO.ite ?_ ?_)
      | (with_reducible refine LeO.bind ?_ (fun _ => ?_))
      | exact ih0 _ _ _
      | exact ih1 _ _ _ _ _
      | exact LeO.none _
      | refine LeO.ite ?_ ?_
      | refine LeO.bind ?_ (fun _ => ?_)
theorem redressref04_Acts.mono : ∀ a0 k, LeO (redressref04_Acts.f k a0) (redressref04_Acts.f (k + 1) a0) := by
  intro a0 k
  obtain ⟨ih0, ih1⟩ := redressref04_Acts.mono_l k
  unfold redressref04_Acts.f
  repeat' first
      | (with_reducible exact ih0 _ _ _)
      | (with_reducible exact ih1 _ _ _ _ _)
      | (with_reducible exact LeO.refl _)
      | (with_reducible exact LeO.none _)
      | (with_reducible refine LeO.ite ?_ ?_)
      | (with_reducible refine LeO.bind ?_ (fun _ => ?_))
      | exact ih0 _ _ _
      | exact ih1 _ _ _ _ _
      | exact LeO.none _
      | refine LeO.ite ?_ ?_
      | refine LeO.bind ?_ (fun _ => ?_)
set_option maxHeartbeats 8000000 in
set_option maxRecDepth 100000 in
theorem redressref04_Acts.calls (k : Nat) (A0 : Option Addr) (c0 : Nat) (l0 : List (S48)) (r : List ByteArray) (w : World) (hr0 : Kd.C k48 w A0 l0.length l0) (hc0 : l0.length ≤ c0) (h : redressref04_Acts.f k l0 = some r) :
    Calls Tryd.prog 61 #[.slice A0 l0.length c0] w fun e w' => ∃ v0_ : Value, e = .returned (v0_) ∧ Kd.R Kd.string 9 w' w.heap.size (fun _ => True) v0_ r ∧ Below w.heap.size w w' := by
  have HR0 := Aside0.mk hr0
  have HC0 := Aside0.mk hc0
  clear hr0 hc0
  have HB := Aside0.mk (Below.refl w.heap.size w)
  have H : (redressref04_Acts.l0 k l0 ([] : List ByteArray) 0) = some r := h
  clear h
  have H' := Aside0.mk H
  clear H
  go_enter Tryd.func61, Tryd.ntmps61
  go_wp2
  repeat (go_quiet (fail); try go_wp2)
  go_loopg [3, 4] k (fun kq v3 v4 w' => ∃ (x3_1 : List ByteArray) (x4_1 : Int), v4 = .int .i64 x4_1 ∧ Aside0 (redressref04_Acts.l0 kq l0 x3_1 x4_1 = some r) ∧ Aside0 (kq ≤ k) ∧ Aside0 (Kd.R Kd.string 9 w' w.heap.size (fun _ => True) v3 x3_1) ∧ Aside0 (Below w.heap.size w w'))
  case atStart => exact ⟨(([] : List ByteArray)), (0), (by first | rfl | (simp; done) | (simp [*]; done)), H', ⟨Nat.le_refl _⟩, ⟨by first | exact Kd.R_nil _ _ _ _ _ | exact Kd.N_nil _ _ _ _ _ | exact Kd.V_nil _ _ _ _ _ | exact Kd.Q_nil _ _ _ _ _ | exact Kd.S_nil _ _ _ _ _⟩, ⟨by repeat (first | (with_reducible first | exact HB.out | apply below_alloc | apply pw_below_drewN | apply below_drew1) | exact HB.out)⟩⟩
  case round =>
    clear H'
    obtain ⟨x3_1, x4_1, rfl, HA, HK1, HO_3, HB⟩ := hrel
    cases gk with
    | zero => exact absurd HA.out (by simp [redressref04_Acts.l0])
    | succ k1 =>
      have H := HA.out
      clear HA
      simp only [redressref04_Acts.l0] at H
      by_cases c2 : x4_1 < (l0.length : Int)
      · rw [if_pos c2] at H
        have c2b0 : decide (x4_1 < (l0.length : Int)) = true := decide_eq_true c2
        clear c2
        by_cases c3 : 0 ≤ x4_1
        · rw [if_pos c3] at H
          have c3b0 : decide (0 ≤ x4_1) = true := decide_eq_true c3
          clear c3
          have H' := Aside0.mk H
          clear H
          have p306 : 0 ≤ (x4_1 : Int) := of_decide_eq_true (by first | (with_reducible assumption) | assumption)
          have q306 : x4_1 < (l0.length : Int) := of_decide_eq_true (by first | (with_reducible assumption) | assumption)
          obtain ⟨ad306, e306, hx306_0, hx306_1, hx306_2⟩ := at_T48 HR0.out x4_1 p306 q306
          cases e306
          replace hx306_0 := (HB.out.cell (World.block_lt_of_cell? w _ hx306_0)).trans hx306_0
          replace hx306_1 := (HB.out.cell (World.block_lt_of_cell? w _ hx306_1)).trans hx306_1
          replace hx306_2 := (HB.out.cell (World.block_lt_of_cell? w _ hx306_2)).trans hx306_2
          replace p306 := eq_true p306
          replace q306 := eq_true q306
          go_wp2
          repeat (go_quiet (fail); try go_wp2)
          go_loopg [5, 6] k1 (fun kq v5 v6 w' => ∃ (x5_2 : Bool) (x6_2 : Int), v5 = .bool x5_2 ∧ v6 = .int .i64 x6_2 ∧ Aside0 (redressref04_Acts.l1 kq l0 x3_1 x4_1 x5_2 x6_2 = some r) ∧ Aside0 (kq ≤ k1) ∧ Aside0 (Kd.R Kd.string 9 w' w.heap.size (fun _ => True) u3 x3_1) ∧ Aside0 (Below w.heap.size w w'))
          case atStart => exact ⟨((((rd_T48 l0 x4_1).f0) != 1)), (0), (by first | rfl | (simp; done) | (simp [*]; done)), (by first | rfl | (simp; done) | (simp [*]; done)), H', ⟨Nat.le_refl _⟩, ⟨by (with_reducible repeat (first | apply Kd.R_alloc | apply Kd.R_drewN | apply Kd.R_drew)); exact HO_3.out⟩, ⟨by repeat (first | (with_reducible first | exact HB.out | apply below_alloc | apply pw_below_drewN | apply below_drew1) | exact HB.out)⟩⟩
          case round =>
            clear H'
            try clear c2
            try clear c2b0
            try clear p2
            try clear c3
            try clear c3b0
            try clear p3
            try clear q3
            try clear hx3
            try clear hx306_0
            try clear hx306_1
            try clear hx306_2
            try clear p306
            try clear q306
            obtain ⟨x5_2, x6_2, rfl, rfl, HA, HK2, HO_3, HB⟩ := hrel
            cases gk with
            | zero => exact absurd HA.out (by simp [redressref04_Acts.l1])
            | succ k2 =>
              have H := HA.out
              clear HA
              simp only [redressref04_Acts.l1] at H
              by_cases c4 : x6_2 < (x3_1.length : Int)
              · rw [if_pos c4] at H
                have c4b0 : decide (x6_2 < (x3_1.length : Int)) = true := decide_eq_true c4
                clear c4
                by_cases c5 : x5_2 = true
                · subst c5
                  have H1 : (redressref04_Acts.l1 k2 l0 x3_1 x4_1 true (wrap64 (x6_2 + 1))) = some r := by rw [if_pos rfl] at H; exact H
                  clear H
                  have H := H1
                  clear H1
                  have H' := Aside0.mk H
                  clear H
                  obtain ⟨Ao6, co6, eo6⟩ := Kd.R_slice HO_3.out
                  subst eo6
                  go_wp2
                  repeat (go_quiet (fail); try go_wp2)
                  go_roundg k2
                  case measure => have := HK1.out; have := HK2.out; omega
                  case rel => exact ⟨(true), (wrap64 (x6_2 + 1)), (by first | rfl | (simp; done) | (simp [*]; done)), (by first | rfl | (simp; done) | (simp [*]; done)), H', ⟨by have := HK1.out; have := HK2.out; omega⟩, ⟨by (with_reducible repeat (first | apply Kd.R_alloc | apply Kd.R_drewN | apply Kd.R_drew)); exact HO_3.out⟩, ⟨by repeat (first | (with_reducible first | exact HB.out | apply below_alloc | apply pw_below_drewN | apply below_drew1) | exact HB.out)⟩⟩
                · replace c5 := Bool.eq_false_iff.mpr c5
                  subst c5
                  have H1 : (if 0 ≤ x6_2 then (if 0 ≤ x4_1 then (if x4_1 < (l0.length : Int) then (redressref04_Acts.l1 k2 l0 x3_1 x4_1 ((rdOf ByteArray.empty x3_1 x6_2).toList == ((rd_T48 l0 x4_1).f1).toList) (wrap64 (x6_2 + 1))) else (none)) else (none)) else (none)) = some r := by rw [if_neg (show ¬ (false = true) by decide)] at H; exact H
                  clear H
                  have H := H1
                  clear H1
                  by_cases c7 : 0 ≤ x6_2
                  · rw [if_pos c7] at H
                    have c7b0 : decide (0 ≤ x6_2) = true := decide_eq_true c7
                    clear c7
                    by_cases c8 : 0 ≤ x4_1
                    · rw [if_pos c8] at H
                      have c8b0 : decide (0 ≤ x4_1) = true := decide_eq_true c8
                      clear c8
                      by_cases c9 : x4_1 < (l0.length : Int)
                      · rw [if_pos c9] at H
                        have c9b0 : decide (x4_1 < (l0.length : Int)) = true := decide_eq_true c9
                        clear c9
                        have H' := Aside0.mk H
                        clear H
                        obtain ⟨Ao10, co10, eo10⟩ := Kd.R_slice HO_3.out
                        subst eo10
                        have p307 : 0 ≤ (x6_2 : Int) := of_decide_eq_true (by first | (with_reducible assumption) | assumption)
                        have q307 : x6_2 < (x3_1.length : Int) := of_decide_eq_true (by first | (with_reducible assumption) | assumption)
                        obtain ⟨ad307, e307, hx307_0⟩ := Kd.at_string (Kd.R_reads' HO_3.out).2.2 x6_2 p307 q307
                        cases e307
                        replace p307 := eq_true p307
                        replace q307 := eq_true q307
                        have p308 : 0 ≤ (x4_1 : Int) := of_decide_eq_true (by first | (with_reducible assumption) | assumption)
                        have q308 : x4_1 < (l0.length : Int) := of_decide_eq_true (by first | (with_reducible assumption) | assumption)
                        obtain ⟨ad308, e308, hx308_0, hx308_1, hx308_2⟩ := at_T48 HR0.out x4_1 p308 q308
                        obtain rfl : ad306 = ad308 := (by injection e308)
                        replace hx308_0 := (HB.out.cell (World.block_lt_of_cell? w _ hx308_0)).trans hx308_0
                        replace hx308_1 := (HB.out.cell (World.block_lt_of_cell? w _ hx308_1)).trans hx308_1
                        replace hx308_2 := (HB.out.cell (World.block_lt_of_cell? w _ hx308_2)).trans hx308_2
                        replace p308 := eq_true p308
                        replace q308 := eq_true q308
                        go_wp2
                        repeat (go_quiet (fail); try go_wp2)
                        go_roundg k2
                        case measure => have := HK1.out; have := HK2.out; omega
                        case rel => exact ⟨(((rdOf ByteArray.empty x3_1 x6_2).toList == ((rd_T48 l0 x4_1).f1).toList)), (wrap64 (x6_2 + 1)), (by first | rfl | (simp; done) | (simp [*]; done)), (by first | rfl | (simp; done) | (simp [*]; done)), H', ⟨by have := HK1.out; have := HK2.out; omega⟩, ⟨by (with_reducible repeat (first | apply Kd.R_alloc | apply Kd.R_drewN | apply Kd.R_drew)); exact HO_3.out⟩, ⟨by repeat (first | (with_reducible first | exact HB.out | apply below_alloc | apply pw_below_drewN | apply below_drew1) | exact HB.out)⟩⟩
                      · rw [if_neg c9] at H
                        exact absurd H (by simp)
                    · rw [if_neg c8] at H
                      exact absurd H (by simp)
                  · rw [if_neg c7] at H
                    exact absurd H (by simp)
              · rw [if_neg c4] at H
                have c4b0 : decide (x6_2 < (x3_1.length : Int)) = false := decide_eq_false c4
                clear c4
                by_cases c11 : x5_2 = true
                · subst c11
                  have H1 : (redressref04_Acts.l0 k2 l0 x3_1 (wrap64 (x4_1 + 1))) = some r := by rw [if_pos rfl] at H; exact H
                  clear H
                  have H := H1
                  clear H1
                  have H' := Aside0.mk H
                  clear H
                  obtain ⟨Ao12, co12, eo12⟩ := Kd.R_slice HO_3.out
                  subst eo12
                  go_wp2
                  repeat (go_quiet (fail); try go_wp2)
                  go_roundg k2
                  case measure => have := HK1.out; have := HK2.out; omega
                  case rel => exact ⟨(x3_1), (wrap64 (x4_1 + 1)), (by first | rfl | (simp; done) | (simp [*]; done)), H', ⟨by have := HK1.out; have := HK2.out; omega⟩, ⟨by (with_reducible repeat (first | apply Kd.R_alloc | apply Kd.R_drewN | apply Kd.R_drew)); exact HO_3.out⟩, ⟨by repeat (first | (with_reducible first | exact HB.out | apply below_alloc | apply pw_below_drewN | apply below_drew1) | exact HB.out)⟩⟩
                · replace c11 := Bool.eq_false_iff.mpr c11
                  subst c11
                  have H1 : (if 0 ≤ x4_1 then (if x4_1 < (l0.length : Int) then (if x3_1.length < 8796093022208 then (redressref04_Acts.l0 k2 l0 (x3_1 ++ [(rd_T48 l0 x4_1).f1]) (wrap64 (x4_1 + 1))) else (none)) else (none)) else (none)) = some r := by rw [if_neg (show ¬ (false = true) by decide)] at H; exact H
                  clear H
                  have H := H1
                  clear H1
                  by_cases c13 : 0 ≤ x4_1
                  · rw [if_pos c13] at H
                    have c13b0 : decide (0 ≤ x4_1) = true := decide_eq_true c13
                    clear c13
                    by_cases c14 : x4_1 < (l0.length : Int)
                    · rw [if_pos c14] at H
                      have c14b0 : decide (x4_1 < (l0.length : Int)) = true := decide_eq_true c14
                      clear c14
                      by_cases c15 : x3_1.length < 8796093022208
                      · rw [if_pos c15] at H
                        have LMc15 := Aside0.mk c15
                        clear c15
                        obtain ⟨y310, hy310⟩ : ∃ y_ : List ByteArray, y_ = (x3_1 ++ [(rd_T48 l0 x4_1).f1]) := ⟨_, rfl⟩
                        replace H : (redressref04_Acts.l0 k2 l0 y310 (wrap64 (x4_1 + 1))) = some r := by first | (rw [hy310]; with_reducible exact H) | (have H2_ := (Option.bind_some _ _).symm.trans H; rw [hy310]; with_reducible exact H2_) | (have H2_ := (Option.bind_some _ _).symm.trans H; with_reducible exact H2_) | with_reducible exact H | (rw [hy310]; exact H) | exact H
                        have Ny310 := Aside0.mk hy310
                        clear hy310
                        have H' := Aside0.mk H
                        clear H
                        obtain ⟨Ao16, co16, eo16⟩ := Kd.R_slice HO_3.out
                        subst eo16
                        have p309 : 0 ≤ (x4_1 : Int) := of_decide_eq_true (by first | (with_reducible assumption) | assumption)
                        have q309 : x4_1 < (l0.length : Int) := of_decide_eq_true (by first | (with_reducible assumption) | assumption)
                        obtain ⟨ad309, e309, hx309_0, hx309_1, hx309_2⟩ := at_T48 HR0.out x4_1 p309 q309
                        obtain rfl : ad306 = ad309 := (by injection e309)
                        replace hx309_0 := (HB.out.cell (World.block_lt_of_cell? w _ hx309_0)).trans hx309_0
                        replace hx309_1 := (HB.out.cell (World.block_lt_of_cell? w _ hx309_1)).trans hx309_1
                        replace hx309_2 := (HB.out.cell (World.block_lt_of_cell? w _ hx309_2)).trans hx309_2
                        replace p309 := eq_true p309
                        replace q309 := eq_true q309
                        go_wp2_with (first | ((with_reducible refine gate_builtin (b := .append) (xs := #[.tmp 40, .tmp 46]) rfl ?_); at_builtin; refine Kd.R_append Kd.string (w0 := w) w.heap.size rfl (.tmp 40) (.tmp 46) 43 9 (.string ⟨#[]⟩) 16 rfl Tryd.underlying43 info9 rfl (by decide) (by omega) (.slice Ao16 x3_1.length co16) x3_1 ((rd_T48 l0 x4_1).f1) [.string ((rd_T48 l0 x4_1).f1)] (fun _ => True) (fun _ => False) rfl rfl ?aP (fun _ hk => hk.elim) ?aF ?aO ?aB ?aS ?aL ?_; (case aP => exact rfl); (case aB => exact (by repeat (first | (with_reducible first | exact HB.out | apply below_alloc | apply pw_below_drewN | apply below_drew1) | exact HB.out))); (case aF => exact (fun _ _ => trivial)); (case aO => exact (by (with_reducible repeat (first | apply Kd.R_alloc | apply Kd.R_drewN | apply Kd.R_drew)); exact HO_3.out)); (case aS => exact (below_size (by repeat (first | (with_reducible first | exact HB.out | apply below_alloc | apply pw_below_drewN | apply below_drew1) | exact HB.out)))); (case aL => have := LMc15.out; omega); intro v311 w17 ho hb hg hat; rw [← Ny310.out] at ho; have n0_ := Aside0.mk (hb); have n1_ := Aside0.mk (ho); clear HB; clear HO_3; have HB := n0_; have HO312 := n1_; clear n0_ n1_; clear ho hb hg hat))
                        repeat (go_quiet (first | ((with_reducible refine gate_builtin (b := .append) (xs := #[.tmp 40, .tmp 46]) rfl ?_); at_builtin; refine Kd.R_append Kd.string (w0 := w) w.heap.size rfl (.tmp 40) (.tmp 46) 43 9 (.string ⟨#[]⟩) 16 rfl Tryd.underlying43 info9 rfl (by decide) (by omega) (.slice Ao16 x3_1.length co16) x3_1 ((rd_T48 l0 x4_1).f1) [.string ((rd_T48 l0 x4_1).f1)] (fun _ => True) (fun _ => False) rfl rfl ?aP (fun _ hk => hk.elim) ?aF ?aO ?aB ?aS ?aL ?_; (case aP => exact rfl); (case aB => exact (by repeat (first | (with_reducible first | exact HB.out | apply below_alloc | apply pw_below_drewN | apply below_drew1) | exact HB.out))); (case aF => exact (fun _ _ => trivial)); (case aO => exact (by (with_reducible repeat (first | apply Kd.R_alloc | apply Kd.R_drewN | apply Kd.R_drew)); exact HO_3.out)); (case aS => exact (below_size (by repeat (first | (with_reducible first | exact HB.out | apply below_alloc | apply pw_below_drewN | apply below_drew1) | exact HB.out)))); (case aL => have := LMc15.out; omega); intro v311 w17 ho hb hg hat; rw [← Ny310.out] at ho; have n0_ := Aside0.mk (hb); have n1_ := Aside0.mk (ho); clear HB; clear HO_3; have HB := n0_; have HO312 := n1_; clear n0_ n1_; clear ho hb hg hat)); try go_wp2_with (first | ((with_reducible refine gate_builtin (b := .append) (xs := #[.tmp 40, .tmp 46]) rfl ?_); at_builtin; refine Kd.R_append Kd.string (w0 := w) w.heap.size rfl (.tmp 40) (.tmp 46) 43 9 (.string ⟨#[]⟩) 16 rfl Tryd.underlying43 info9 rfl (by decide) (by omega) (.slice Ao16 x3_1.length co16) x3_1 ((rd_T48 l0 x4_1).f1) [.string ((rd_T48 l0 x4_1).f1)] (fun _ => True) (fun _ => False) rfl rfl ?aP (fun _ hk => hk.elim) ?aF ?aO ?aB ?aS ?aL ?_; (case aP => exact rfl); (case aB => exact (by repeat (first | (with_reducible first | exact HB.out | apply below_alloc | apply pw_below_drewN | apply below_drew1) | exact HB.out))); (case aF => exact (fun _ _ => trivial)); (case aO => exact (by (with_reducible repeat (first | apply Kd.R_alloc | apply Kd.R_drewN | apply Kd.R_drew)); exact HO_3.out)); (case aS => exact (below_size (by repeat (first | (with_reducible first | exact HB.out | apply below_alloc | apply pw_below_drewN | apply below_drew1) | exact HB.out)))); (case aL => have := LMc15.out; omega); intro v311 w17 ho hb hg hat; rw [← Ny310.out] at ho; have n0_ := Aside0.mk (hb); have n1_ := Aside0.mk (ho); clear HB; clear HO_3; have HB := n0_; have HO312 := n1_; clear n0_ n1_; clear ho hb hg hat)))
                        go_roundg k2
                        case measure => have := HK1.out; have := HK2.out; omega
                        case rel => exact ⟨(y310), (wrap64 (x4_1 + 1)), (by first | rfl | (simp; done) | (simp [*]; done)), H', ⟨by have := HK1.out; have := HK2.out; omega⟩, ⟨by (with_reducible repeat (first | apply Kd.R_alloc | apply Kd.R_drewN | apply Kd.R_drew)); exact HO312.out⟩, ⟨by repeat (first | (with_reducible first | exact HB.out | apply below_alloc | apply pw_below_drewN | apply below_drew1) | exact HB.out)⟩⟩
                      · rw [if_neg c15] at H
                        exact absurd H (by simp)
                    · rw [if_neg c14] at H
                      exact absurd H (by simp)
                  · rw [if_neg c13] at H
                    exact absurd H (by simp)
        · rw [if_neg c3] at H
          exact absurd H (by simp)
      · rw [if_neg c2] at H
        have c2b0 : decide (x4_1 < (l0.length : Int)) = false := decide_eq_false c2
        clear c2
        obtain rfl := Option.some.inj H
        go_wp2
        repeat (go_quiet (fail); try go_wp2)
        go_ret
        exact ⟨_, by first | rfl | (simp [errW_none, errW_some] <;> rfl) | (simp [*, errW_none, errW_some] <;> rfl), by (with_reducible repeat (first | apply Kd.R_alloc | apply Kd.R_drewN | apply Kd.R_drew)); exact HO_3.out, by repeat (first | (with_reducible first | exact HB.out | apply below_alloc | apply pw_below_drewN | apply below_drew1) | exact HB.out)⟩

end Go.Proofs.YtefiadocljnpjaaDoor.PK

-- Of this seat's own make: written by a program of this session's repo (wip/inject.py) over the kit's printer, with some functions given by hand.
import Derived.Test.YtefiadocljnpjaaDoorMA
import Derived.Test.YtefiadocljnpjaaDoorPKx0
import Derived.Test.YtefiadocljnpjaaDoorPKx10
namespace Go.Proofs.YtefiadocljnpjaaDoor.PK
open Go.RowKit Go.Proofs.YtefiadocljnpjaaDoorW.PrintWords Go.Proofs.YtefiadocljnpjaaDoorW.PrintLast Go.Proofs.YtefiadocljnpjaaDoorW.PrintMore
attribute [local go_sem] max2_int min2_int max_two min_two max_three min_three max_four min_four   -- for this text's walks alone
set_option linter.unusedVariables false
set_option linter.unusedSimpArgs false

/-! ### utf8_RuneStart: function 120 -/
def utf8_RuneStart.f (a0 : Int) : Option (Bool) := some ((Go.bits .and .u8 a0 192) != 128)
set_option maxHeartbeats 8000000 in
set_option maxRecDepth 100000 in
theorem utf8_RuneStart.calls (a0 : Int) (r : Bool) (w : World) (h : utf8_RuneStart.f a0 = some r) :
    Calls Tryd.prog 120 #[.int .u8 a0] w fun e w' => e = .returned (.bool r) ∧ Drawn0 w w' := by
  have H : (some ((Go.bits .and .u8 a0 192) != 128)) = some r := h
  clear h
  obtain rfl := Option.some.inj H
  go_enter Tryd.func120, Tryd.ntmps120
  go_wp2
  go_ret
  exact ⟨by first | rfl | (simp; done) | (simp [*]; done), by repeat (first | exact Drawn0.refl _ | apply Drawn0.step)⟩

-- NOT PRINTED: function 118 (utf8_DecodeLastRuneInString)

-- NOT PRINTED: function 111 (strings_trimRightUnicode)

-- NOT PRINTED: function 91 (strings_Trim)

-- NOT PRINTED: function 70 (row_named)

-- NOT PRINTED: function 33 (row_Right)

-- by hand: function 36 (row_Size)

-- by hand: function 75 (api_Node_75)

/-! ### row_Kids: function 42 -/
def row_Kids.l0 : Nat → List (S48) → List (List (S48)) → Int → Int → Int → Option ((List (List (S48))))
  | 0, _, _, _, _, _ => none
  | k + 1, x0, x3, x4, x13, x14 => if x14 < x13 then (if 0 ≤ x4 then (if x4 ≤ (x0.length : Int) then ((row_Size.f (x0.drop (x4 : Int).toNat)).bind fun t139 => (if x4 ≤ (wrap64 (x4 + t139)) then (if (wrap64 (x4 + t139)) ≤ (x0.length : Int) then ((api_Node_75.f ((x0.take ((wrap64 (x4 + t139)) : Int).toNat).drop (x4 : Int).toNat)).bind fun t144 => (if x3.length < 5864062014805 then (row_Kids.l0 k x0 (x3 ++ [t144]) (wrap64 (x4 + t139)) x13 (wrap64 (x14 + 1))) else (none))) else (none)) else (none))) else (none)) else (none)) else (some x3)
def row_Kids.f (k : Nat) (l0 : List (S48)) : Option ((List (List (S48)))) := (row_Size.f l0).bind fun t132 => (if t132 = 0 then (some ([] : List (List (S48)))) else (if 0 < (l0.length : Int) then ((row_Arity.f k ((rd_T48 l0 0).f0)).bind fun t134 => (row_Kids.l0 k l0 ([] : List (List (S48))) 1 t134 0)) else (none)))
theorem row_Kids.mono_l : ∀ k, (∀ y0 y1 y2 y3 y4, LeO (row_Kids.l0 k y0 y1 y2 y3 y4) (row_Kids.l0 (k + 1) y0 y1 y2 y3 y4))
  | 0 => fun _ _ _ _ _ r h => by simp [row_Kids.l0] at h
  | k + 1 => by
    have ih0 := row_Kids.mono_l k
    · intro y0 y1 y2 y3 y4
      unfold row_Kids.l0
      repeat' first
      | (with_reducible exact ih0 _ _ _ _ _)
      | (with_reducible exact row_Arity.mono _ _)
      | (with_reducible exact LeO.refl _)
      | (with_reducible exact LeO.none _)
      | (with_reducible refine LeO.ite ?_ ?_)
      | (with_reducible refine LeO.bind ?_ (fun _ => ?_))
      | exact ih0 _ _ _ _ _
      | exact row_Arity.mono _ _
      | exact LeO.none _
      | refine LeO.ite ?_ ?_
      | refine LeO.bind ?_ (fun _ => ?_)
theorem row_Kids.mono : ∀ a0 k, LeO (row_Kids.f k a0) (row_Kids.f (k + 1) a0) := by
  intro a0 k
  have ih0 := row_Kids.mono_l k
  unfold row_Kids.f
  repeat' first
      | (with_reducible exact ih0 _ _ _ _ _)
      | (with_reducible exact row_Arity.mono _ _)
      | (with_reducible exact LeO.refl _)
      | (with_reducible exact LeO.none _)
      | (with_reducible refine LeO.ite ?_ ?_)
      | (with_reducible refine LeO.bind ?_ (fun _ => ?_))
      | exact ih0 _ _ _ _ _
      | exact row_Arity.mono _ _
      | exact LeO.none _
      | refine LeO.ite ?_ ?_
      | refine LeO.bind ?_ (fun _ => ?_)
set_option maxHeartbeats 8000000 in
set_option maxRecDepth 100000 in
theorem row_Kids.calls (k : Nat) (A0 : Option Addr) (c0 : Nat) (l0 : List (S48)) (r : List (List (S48))) (w : World) (hr0 : Kd.C k48 w A0 l0.length l0) (hc0 : l0.length ≤ c0) (h : row_Kids.f k l0 = some r) :
    Calls Tryd.prog 42 #[.slice A0 l0.length c0] w fun e w' => ∃ v0_ : Value, e = .returned (v0_) ∧ Kd.S (Kd.slice 48 k48) 51 w' w.heap.size (fun _ => True) v0_ r ∧ Below w.heap.size w w' := by
  have HR0 := Aside0.mk hr0
  have HC0 := Aside0.mk hc0
  clear hr0 hc0
  have HB := Aside0.mk (Below.refl w.heap.size w)
  have H : ((row_Size.f l0).bind fun t132 => (if t132 = 0 then (some ([] : List (List (S48)))) else (if 0 < (l0.length : Int) then ((row_Arity.f k ((rd_T48 l0 0).f0)).bind fun t134 => (row_Kids.l0 k l0 ([] : List (List (S48))) 1 t134 0)) else (none)))) = some r := h
  clear h
  replace H := Option.bind_eq_some_iff.mp H
  obtain ⟨t132, A20, H⟩ := H
  replace H : (if t132 = 0 then (some ([] : List (List (S48)))) else (if 0 < (l0.length : Int) then ((row_Arity.f k ((rd_T48 l0 0).f0)).bind fun t134 => (row_Kids.l0 k l0 ([] : List (List (S48))) 1 t134 0)) else (none))) = some r := H
  have A2 := Aside0.mk A20
  clear A20
  by_cases c3 : t132 = 0
  · rw [if_pos c3] at H
    have c3b0 : (t132 == 0) = true := beq_iff_eq.mpr c3
    have c3b1 : (t132 != 0) = false := bne_eq_false_iff_eq.mpr c3
    clear c3
    obtain rfl := Option.some.inj H
    go_enter Tryd.func42, Tryd.ntmps42
    go_wp2_with (first | ((with_reducible refine gate_callee (f := 36) rfl ?_); refine goesL_ (some 7) rfl rfl Tryd.func36 (by kernel_rfl) rfl #[.slice A0 l0.length c0] rfl (by (try simp only [List.map_toArray, List.map_cons, List.map_nil]); first | done | rfl | (simp only [List.length_drop, List.length_take]; rfl)) ?_; (with_reducible refine (row_Size.calls _ _ l0 t132 _ ?side1 ?side2 A2.out).mono ?_); (case side1 => repeat (first | exact HR0.out | (with_reducible refine Kd.C_alloc ?_ _) | (with_reducible refine Kd.C_drewN ?_ _) | (with_reducible refine Kd.C_drew ?_))); (case side2 => exact HC0.out); rintro e w4 ⟨rfl, hb⟩; refine ⟨_, rfl, ?_⟩; have n0_ := Aside0.mk (below_step (by repeat (first | (with_reducible first | exact HB.out | apply below_alloc | apply pw_below_drewN | apply below_drew1) | exact HB.out)) hb); clear HB; have HB := n0_; clear n0_; (try clear hb); (try clear hb2); (try clear hk); (try clear hi)))
    go_ret
    exact ⟨_, by first | rfl | (simp [errW_none, errW_some] <;> rfl) | (simp [*, errW_none, errW_some] <;> rfl), by first | exact Kd.S_nil _ _ _ _ _ | exact Kd.N_nil _ _ _ _ _ | exact Kd.V_nil _ _ _ _ _ | exact Kd.Q_nil _ _ _ _ _ | exact Kd.R_nil _ _ _ _ _, by repeat (first | (with_reducible first | exact HB.out | apply below_alloc | apply pw_below_drewN | apply below_drew1) | exact HB.out)⟩
  · rw [if_neg c3] at H
    have c3b0 : (t132 == 0) = false := beq_eq_false_iff_ne.mpr c3
    have c3b1 : (t132 != 0) = true := bne_iff_ne.mpr c3
    by_cases c5 : 0 < (l0.length : Int)
    · rw [if_pos c5] at H
      have c5b0 : decide (0 < (l0.length : Int)) = true := decide_eq_true c5
      have c5b1 : decide (0 < l0.length) = true := decide_eq_true (by omega)
      clear c5
      replace H := Option.bind_eq_some_iff.mp H
      obtain ⟨t134, A60, H⟩ := H
      replace H : (row_Kids.l0 k l0 ([] : List (List (S48))) 1 t134 0) = some r := H
      have A6 := Aside0.mk A60
      clear A60
      have H' := Aside0.mk H
      clear H
      go_enter Tryd.func42, Tryd.ntmps42
      go_wp2_with (first | ((with_reducible refine gate_callee (f := 36) rfl ?_); refine goesL_ (some 7) rfl rfl Tryd.func36 (by kernel_rfl) rfl #[.slice A0 l0.length c0] rfl (by (try simp only [List.map_toArray, List.map_cons, List.map_nil]); first | done | rfl | (simp only [List.length_drop, List.length_take]; rfl)) ?_; (with_reducible refine (row_Size.calls _ _ l0 t132 _ ?side1 ?side2 A2.out).mono ?_); (case side1 => repeat (first | exact HR0.out | (with_reducible refine Kd.C_alloc ?_ _) | (with_reducible refine Kd.C_drewN ?_ _) | (with_reducible refine Kd.C_drew ?_))); (case side2 => exact HC0.out); rintro e w7 ⟨rfl, hb⟩; refine ⟨_, rfl, ?_⟩; have n0_ := Aside0.mk (below_step (by repeat (first | (with_reducible first | exact HB.out | apply below_alloc | apply pw_below_drewN | apply below_drew1) | exact HB.out)) hb); clear HB; have HB := n0_; clear n0_; (try clear hb); (try clear hb2); (try clear hk); (try clear hi); have p133 : 0 ≤ (0 : Int) := (by omega); have q133 : 0 < (l0.length : Int) := of_decide_eq_true (by first | (with_reducible assumption) | assumption); obtain ⟨ad133, e133, hx133_0, hx133_1, hx133_2⟩ := at_T48 HR0.out 0 p133 q133; cases e133; have qi133 : (0 < l0.length) = True := eq_true (by omega); (try rw [show ((0 : Int)).toNat = 0 from rfl] at hx133_0); (try rw [show 0 * 3 = 0 from rfl] at hx133_0); (try rw [Addr.add_zero'] at hx133_0); (try rw [show ((0 : Int)).toNat = 0 from rfl] at hx133_1); (try rw [show 0 * 3 = 0 from rfl] at hx133_1); (try rw [Addr.add_zero'] at hx133_1); (try rw [show ((0 : Int)).toNat = 0 from rfl] at hx133_2); (try rw [show 0 * 3 = 0 from rfl] at hx133_2); (try rw [Addr.add_zero'] at hx133_2); replace hx133_0 := (HB.out.cell (World.block_lt_of_cell? w _ hx133_0)).trans hx133_0; replace hx133_1 := (HB.out.cell (World.block_lt_of_cell? w _ hx133_1)).trans hx133_1; replace hx133_2 := (HB.out.cell (World.block_lt_of_cell? w _ hx133_2)).trans hx133_2; replace p133 := eq_true p133; replace q133 := eq_true q133) | ((with_reducible refine gate_callee (f := 31) rfl ?_); refine goesL_ (some 13) rfl rfl Tryd.func31 (by kernel_rfl) rfl #[.int .i64 ((rd_T48 l0 0).f0)] rfl (by (try simp only [List.map_toArray, List.map_cons, List.map_nil]); first | done | rfl | (simp only [List.length_drop, List.length_take]; rfl)) ?_; (with_reducible refine (row_Arity.calls k ((rd_T48 l0 0).f0) t134 _ A6.out).mono ?_); rintro e w' ⟨rfl, ⟨nd, rfl⟩⟩; refine ⟨_, rfl, ?_⟩))
      go_loopg [3, 4, 14] k (fun kq v3 v4 v14 w' => ∃ (x3_1 : List (List (S48))) (x4_1 : Int) (x14_1 : Int), v4 = .int .i64 x4_1 ∧ v14 = .int .i64 x14_1 ∧ Aside0 (row_Kids.l0 kq l0 x3_1 x4_1 t134 x14_1 = some r) ∧ Aside0 (kq ≤ k) ∧ Aside0 (Kd.S (Kd.slice 48 k48) 51 w' w.heap.size (fun _ => True) v3 x3_1) ∧ Aside0 (Below w.heap.size w w'))
      case atStart => exact ⟨(([] : List (List (S48)))), (1), (0), (by first | rfl | (simp; done) | (simp [*]; done)), (by first | rfl | (simp; done) | (simp [*]; done)), H', ⟨Nat.le_refl _⟩, ⟨by first | exact Kd.S_nil _ _ _ _ _ | exact Kd.N_nil _ _ _ _ _ | exact Kd.V_nil _ _ _ _ _ | exact Kd.Q_nil _ _ _ _ _ | exact Kd.R_nil _ _ _ _ _⟩, ⟨by repeat (first | (with_reducible first | exact HB.out | apply below_alloc | apply pw_below_drewN | apply below_drew1) | exact HB.out)⟩⟩
      case round =>
        clear H'
        try clear p1
        try clear q1
        try clear hx1
        try clear qi1
        try clear p2
        try clear c3
        try clear c3b0
        try clear c3b1
        try clear c4
        try clear c5
        try clear c5b0
        try clear c5b1
        try clear hx133_0
        try clear hx133_1
        try clear hx133_2
        try clear p133
        try clear q133
        obtain ⟨x3_1, x4_1, x14_1, rfl, rfl, HA, HK1, HO_3, HB⟩ := hrel
        cases gk with
        | zero => exact absurd HA.out (by simp [row_Kids.l0])
        | succ k1 =>
          have H := HA.out
          clear HA
          simp only [row_Kids.l0] at H
          by_cases c8 : x14_1 < t134
          · rw [if_pos c8] at H
            have c8b0 : decide (x14_1 < t134) = true := decide_eq_true c8
            clear c8
            by_cases c9 : 0 ≤ x4_1
            · rw [if_pos c9] at H
              have c9b0 := eq_true c9
              have c9b1 : decide (0 ≤ x4_1) = true := decide_eq_true c9
              clear c9
              by_cases c10 : x4_1 ≤ (l0.length : Int)
              · rw [if_pos c10] at H
                have c10b0 := eq_true c10
                have c10b1 : decide (x4_1 ≤ (l0.length : Int)) = true := decide_eq_true c10
                clear c10
                obtain ⟨y135, hy135⟩ : ∃ y_ : List (S48), y_ = (l0.drop (x4_1 : Int).toNat) := ⟨_, rfl⟩
                replace H : ((row_Size.f y135).bind fun t139 => (if x4_1 ≤ (wrap64 (x4_1 + t139)) then (if (wrap64 (x4_1 + t139)) ≤ (l0.length : Int) then ((api_Node_75.f ((l0.take ((wrap64 (x4_1 + t139)) : Int).toNat).drop (x4_1 : Int).toNat)).bind fun t144 => (if x3_1.length < 5864062014805 then (row_Kids.l0 k1 l0 (x3_1 ++ [t144]) (wrap64 (x4_1 + t139)) t134 (wrap64 (x14_1 + 1))) else (none))) else (none)) else (none))) = some r := by first | (rw [hy135]; with_reducible exact H) | (have H2_ := (Option.bind_some _ _).symm.trans H; rw [hy135]; with_reducible exact H2_) | (have H2_ := (Option.bind_some _ _).symm.trans H; with_reducible exact H2_) | with_reducible exact H | (rw [hy135]; exact H) | exact H
                have Ny135 := Aside0.mk hy135
                clear hy135
                replace H := Option.bind_eq_some_iff.mp H
                obtain ⟨t139, A110, H⟩ := H
                replace H : (if x4_1 ≤ (wrap64 (x4_1 + t139)) then (if (wrap64 (x4_1 + t139)) ≤ (l0.length : Int) then ((api_Node_75.f ((l0.take ((wrap64 (x4_1 + t139)) : Int).toNat).drop (x4_1 : Int).toNat)).bind fun t144 => (if x3_1.length < 5864062014805 then (row_Kids.l0 k1 l0 (x3_1 ++ [t144]) (wrap64 (x4_1 + t139)) t134 (wrap64 (x14_1 + 1))) else (none))) else (none)) else (none)) = some r := H
                have A11 := Aside0.mk A110
                clear A110
                have c12b0 := eq_true (of_decide_eq_true (by first | (with_reducible assumption) | assumption) : 0 ≤ x4_1)
                by_cases c13 : x4_1 ≤ (wrap64 (x4_1 + t139))
                · rw [if_pos c13] at H
                  have c13b0 := eq_true c13
                  have c13b1 : decide (x4_1 ≤ (wrap64 (x4_1 + t139))) = true := decide_eq_true c13
                  by_cases c14 : (wrap64 (x4_1 + t139)) ≤ (l0.length : Int)
                  · rw [if_pos c14] at H
                    have c14b0 := eq_true c14
                    have c14b1 : decide ((wrap64 (x4_1 + t139)) ≤ (l0.length : Int)) = true := decide_eq_true c14
                    obtain ⟨y140, hy140⟩ : ∃ y_ : List (S48), y_ = ((l0.take ((wrap64 (x4_1 + t139)) : Int).toNat).drop (x4_1 : Int).toNat) := ⟨_, rfl⟩
                    replace H : ((api_Node_75.f y140).bind fun t144 => (if x3_1.length < 5864062014805 then (row_Kids.l0 k1 l0 (x3_1 ++ [t144]) (wrap64 (x4_1 + t139)) t134 (wrap64 (x14_1 + 1))) else (none))) = some r := by first | (rw [hy140]; with_reducible exact H) | (have H2_ := (Option.bind_some _ _).symm.trans H; rw [hy140]; with_reducible exact H2_) | (have H2_ := (Option.bind_some _ _).symm.trans H; with_reducible exact H2_) | with_reducible exact H | (rw [hy140]; exact H) | exact H
                    have Ny140 := Aside0.mk hy140
                    clear hy140
                    replace H := Option.bind_eq_some_iff.mp H
                    obtain ⟨t144, A150, H⟩ := H
                    replace H : (if x3_1.length < 5864062014805 then (row_Kids.l0 k1 l0 (x3_1 ++ [t144]) (wrap64 (x4_1 + t139)) t134 (wrap64 (x14_1 + 1))) else (none)) = some r := H
                    have A15 := Aside0.mk A150
                    clear A150
                    by_cases c16 : x3_1.length < 5864062014805
                    · rw [if_pos c16] at H
                      have LMc16 := Aside0.mk c16
                      clear c16
                      obtain ⟨y147, hy147⟩ : ∃ y_ : List (List (S48)), y_ = (x3_1 ++ [t144]) := ⟨_, rfl⟩
                      replace H : (row_Kids.l0 k1 l0 y147 (wrap64 (x4_1 + t139)) t134 (wrap64 (x14_1 + 1))) = some r := by first | (rw [hy147]; with_reducible exact H) | (have H2_ := (Option.bind_some _ _).symm.trans H; rw [hy147]; with_reducible exact H2_) | (have H2_ := (Option.bind_some _ _).symm.trans H; with_reducible exact H2_) | with_reducible exact H | (rw [hy147]; exact H) | exact H
                      have Ny147 := Aside0.mk hy147
                      clear hy147
                      have H' := Aside0.mk H
                      clear H
                      have q17 : (x4_1 : Int) ≤ ((l0.length : Int) : Int) := of_decide_eq_true (by first | (with_reducible assumption) | assumption)
                      obtain ⟨i017, hi017, _, hsz17, _⟩ := info_parts info48
                      have hroom17 : l0.length ≤ c0 := HC0.out
                      have hC17 : Kd.C k48 _ (some ad133) l0.length l0 := HR0.out
                      have q017 : (0 : Int) ≤ (x4_1 : Int) := of_decide_eq_true (by first | (with_reducible assumption) | assumption)
                      have hcut17 := cut_from (P := Tryd.prog) 51 48 .i64 Tryd.underlying51 hi017 3 hsz17 (some ad133) l0.length c0 x4_1 q017 q17
                      have hr17 := Kd.C_drop (m := (x4_1 : Int).toNat) (c := c0) hC17 (by omega) hroom17
                      obtain ⟨A17, hA17⟩ : ∃ A1, A1 = (if c0 = (x4_1 : Int).toNat then (some ad133) else ((some ad133) : Option Addr).map (·.add ((x4_1 : Int).toNat * 3))) := ⟨_, rfl⟩
                      obtain ⟨c17, hc17⟩ : ∃ c1, c1 = c0 - (x4_1 : Int).toNat := ⟨_, rfl⟩
                      have hy17 : y135.length = l0.length - (x4_1 : Int).toNat := (by rw [Ny135.out, List.length_drop] <;> omega)
                      rw [show (l0).drop (x4_1 : Int).toNat = y135 from Ny135.out.symm] at hr17
                      replace hr17 : Kd.C k48 _ A17 y135.length y135 := (by rw [hA17]; exact hr17)
                      rw [← hy17, ← hA17, ← hc17] at hcut17
                      have HR138 := Aside0.mk hr17
                      have HC138 := Aside0.mk (show y135.length ≤ c17 from by rw [hy17, hc17]; exact Nat.sub_le_sub_right hroom17 _)
                      clear hr17 hC17 hroom17 hi017 hsz17 hc17
                      have KY17 := Aside0.mk hy17
                      have KA17 := Aside0.mk hA17
                      clear hy17 hA17
                      replace q17 := eq_true q17
                      go_wp2_with (first | ((with_reducible refine gate_callee (f := 36) rfl ?_); refine goesL_ (some 19) rfl rfl Tryd.func36 (by kernel_rfl) rfl #[.slice A17 y135.length c17] rfl (by (try simp only [List.map_toArray, List.map_cons, List.map_nil]); first | done | rfl | (simp only [List.length_drop, List.length_take]; rfl)) ?_; (with_reducible refine (row_Size.calls _ _ y135 t139 _ ?side1 ?side2 A11.out).mono ?_); (case side1 => repeat (first | exact (Kd.C_below HR138.out HB.out) | (with_reducible refine Kd.C_alloc ?_ _) | (with_reducible refine Kd.C_drewN ?_ _) | (with_reducible refine Kd.C_drew ?_))); (case side2 => exact HC138.out); rintro e w18 ⟨rfl, hb⟩; refine ⟨_, rfl, ?_⟩; have n0_ := Aside0.mk (Kd.S_below (by (with_reducible repeat (first | apply Kd.S_alloc | apply Kd.S_drewN | apply Kd.S_drew)); exact HO_3.out) hb); have n1_ := Aside0.mk (below_step (by repeat (first | (with_reducible first | exact HB.out | apply below_alloc | apply pw_below_drewN | apply below_drew1) | exact HB.out)) hb); clear HO_3; clear HB; have HO_3 := n0_; have HB := n1_; clear n0_ n1_; (try clear hb); (try clear hb2); (try clear hk); (try clear hi); have q19 : ((wrap64 (x4_1 + t139)) : Int) ≤ ((l0.length : Int) : Int) := of_decide_eq_true (by first | (with_reducible assumption) | assumption); obtain ⟨i019, hi019, _, hsz19, _⟩ := info_parts info48; have hroom19 : l0.length ≤ c0 := HC0.out; have hC19 : Kd.C k48 _ (some ad133) l0.length l0 := HR0.out; have ql19 : (x4_1 : Int) ≤ ((wrap64 (x4_1 + t139)) : Int) := of_decide_eq_true (by first | (with_reducible assumption) | assumption); have q019 : (0 : Int) ≤ (x4_1 : Int) := of_decide_eq_true (by first | (with_reducible assumption) | assumption); have hcut19 := cut_mid (P := Tryd.prog) 51 48 .i64 .i64 Tryd.underlying51 hi019 3 hsz19 (some ad133) l0.length c0 x4_1 (wrap64 (x4_1 + t139)) q019 ql19 q19 hroom19; have hr19 := Kd.C_mid (lo := (x4_1 : Int).toNat) (hi := ((wrap64 (x4_1 + t139)) : Int).toNat) (c := c0) hC19 (by omega) (by omega) hroom19; obtain ⟨A19, hA19⟩ : ∃ A1, A1 = (if c0 = (x4_1 : Int).toNat then (some ad133) else ((some ad133) : Option Addr).map (·.add ((x4_1 : Int).toNat * 3))) := ⟨_, rfl⟩; obtain ⟨c19, hc19⟩ : ∃ c1, c1 = c0 - (x4_1 : Int).toNat := ⟨_, rfl⟩; have hy19 : y140.length = ((wrap64 (x4_1 + t139)) : Int).toNat - (x4_1 : Int).toNat := (by rw [Ny140.out, List.length_drop, List.length_take] <;> omega); rw [show ((l0).take ((wrap64 (x4_1 + t139)) : Int).toNat).drop (x4_1 : Int).toNat = y140 from Ny140.out.symm] at hr19; replace hr19 : Kd.C k48 _ A19 y140.length y140 := (by rw [hA19]; exact hr19); rw [← hy19, ← hA19, ← hc19] at hcut19; have HR143 := Aside0.mk hr19; have HC143 := Aside0.mk (show y140.length ≤ c19 from by rw [hy19, hc19]; exact Nat.sub_le_sub_right (Nat.le_trans (by omega) hroom19) _); clear hr19 hC19 hroom19 hi019 hsz19 hc19; have KY19 := Aside0.mk hy19; have KA19 := Aside0.mk hA19; clear hy19 hA19; replace q19 := eq_true q19) | ((with_reducible refine gate_callee (f := 75) rfl ?_); refine goesL_ (some 27) rfl rfl Tryd.func75 (by kernel_rfl) rfl #[.slice A19 y140.length c19] rfl (by (try simp only [List.map_toArray, List.map_cons, List.map_nil]); first | done | rfl | (simp only [List.length_drop, List.length_take]; rfl)) ?_; (with_reducible refine (api_Node_75.calls _ _ y140 t144 _ ?side1 ?side2 A15.out).mono ?_); (case side1 => repeat (first | exact (Kd.C_below HR143.out HB.out) | (with_reducible refine Kd.C_alloc ?_ _) | (with_reducible refine Kd.C_drewN ?_ _) | (with_reducible refine Kd.C_drew ?_))); (case side2 => exact HC143.out); rintro e w20 ⟨v145, rfl, ho0, hb⟩; refine ⟨_, rfl, ?_⟩; have n0_ := Aside0.mk (Kd.S_elder' (by (with_reducible repeat (first | apply Kd.S_alloc | apply Kd.S_drewN | apply Kd.S_drew)); exact HO_3.out) (Kd.R_base ho0) hb); have n1_ := Aside0.mk (Kd.R_lower ho0 (below_size (by repeat (first | (with_reducible first | exact HB.out | apply below_alloc | apply pw_below_drewN | apply below_drew1) | exact HB.out)))); have n2_ := Aside0.mk (below_step (by repeat (first | (with_reducible first | exact HB.out | apply below_alloc | apply pw_below_drewN | apply below_drew1) | exact HB.out)) hb); clear HO_3; clear HB; have HO_3 := n0_; have HO146 := n1_; have HB := n2_; clear n0_ n1_ n2_; (try clear hb); (try clear hb2); (try clear hk); (try clear hi); (try clear ho0); obtain ⟨Ao22, co22, eo22⟩ := Kd.R_slice HO146.out; subst eo22) | ((with_reducible refine gate_builtin (b := .append) (xs := #[.tmp 20, .tmp 28]) rfl ?_); at_builtin; refine Kd.S_append (Kd.slice 48 k48) (w0 := w) w.heap.size rfl (.tmp 20) (.tmp 28) 54 51 (.slice none 0 0) 24 rfl Tryd.underlying54 info51 rfl (by decide) (by omega) u3 x3_1 t144 [.slice Ao22 t144.length co22] (fun _ => True) (fun k_ => some k_ = (.slice Ao22 t144.length co22 : Value).ownBlock) rfl rfl ?aP (fun k_ hk_ => ((Kd.R_mono (ok' := fun k_ => ((fun _ => True)) k_ ∧ some k_ ≠ (u3 : Value).ownBlock) (Kd.R_apart' (HO146.out) (Kd.S_typed HO_3.out) (by decide)) (fun k_ hk => ⟨trivial, hk.2⟩))).1 k_ hk_.symm) ?aF ?aO ?aB ?aS ?aL ?_; (case aP => exact Kd.M_row (Kd.R_mono (Kd.R_tight rfl (Kd.R_mono (ok' := fun k_ => ((fun _ => True)) k_ ∧ some k_ ≠ (u3 : Value).ownBlock) (Kd.R_apart' (HO146.out) (Kd.S_typed HO_3.out) (by decide)) (fun k_ hk => ⟨trivial, hk.2⟩))) (fun _ h_ => h_))); (case aB => exact (by repeat (first | (with_reducible first | exact HB.out | apply below_alloc | apply pw_below_drewN | apply below_drew1) | exact HB.out))); (case aF => exact (fun _ _ => trivial)); (case aO => exact (by (with_reducible repeat (first | apply Kd.S_alloc | apply Kd.S_drewN | apply Kd.S_drew)); exact Kd.S_mono HO_3.out (fun k_ hk => ⟨trivial, fun e_ => hk.2 e_⟩))); (case aS => exact (below_size (by repeat (first | (with_reducible first | exact HB.out | apply below_alloc | apply pw_below_drewN | apply below_drew1) | exact HB.out)))); (case aL => have := LMc16.out; omega); intro v148 w21 ho hb hg hat; rw [← Ny147.out] at ho; have n0_ := Aside0.mk (hb); have n1_ := Aside0.mk (ho); clear HB; clear HO_3; clear HO146; have HB := n0_; have HO149 := n1_; clear n0_ n1_; clear ho hb hg hat))
                      go_roundg k1
                      case measure => have := HK1.out; omega
                      case rel => exact ⟨(y147), (wrap64 (x4_1 + t139)), (wrap64 (x14_1 + 1)), (by first | rfl | (simp; done) | (simp [*]; done)), (by first | rfl | (simp; done) | (simp [*]; done)), H', ⟨by have := HK1.out; omega⟩, ⟨by (with_reducible repeat (first | apply Kd.S_alloc | apply Kd.S_drewN | apply Kd.S_drew)); exact HO149.out⟩, ⟨by repeat (first | (with_reducible first | exact HB.out | apply below_alloc | apply pw_below_drewN | apply below_drew1) | exact HB.out)⟩⟩
                    · rw [if_neg c16] at H
                      exact absurd H (by simp)
                  · rw [if_neg c14] at H
                    exact absurd H (by simp)
                · rw [if_neg c13] at H
                  exact absurd H (by simp)
              · rw [if_neg c10] at H
                exact absurd H (by simp)
            · rw [if_neg c9] at H
              exact absurd H (by simp)
          · rw [if_neg c8] at H
            have c8b0 : decide (x14_1 < t134) = false := decide_eq_false c8
            clear c8
            obtain rfl := Option.some.inj H
            go_wp2
            go_ret
            exact ⟨_, by first | rfl | (simp [errW_none, errW_some] <;> rfl) | (simp [*, errW_none, errW_some] <;> rfl), by (with_reducible repeat (first | apply Kd.S_alloc | apply Kd.S_drewN | apply Kd.S_drew)); exact HO_3.out, by repeat (first | (with_reducible first | exact HB.out | apply below_alloc | apply pw_below_drewN | apply below_drew1) | exact HB.out)⟩
    · rw [if_neg c5] at H
      exact absurd H (by simp)

end Go.Proofs.YtefiadocljnpjaaDoor.PK

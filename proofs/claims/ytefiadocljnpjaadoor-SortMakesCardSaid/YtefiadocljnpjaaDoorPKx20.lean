-- Of this seat's own make: written by a program of this session's repo (wip/inject.py) over the kit's printer, with some functions given by hand.
import Derived.Test.YtefiadocljnpjaaDoorPKx0
import Derived.Test.YtefiadocljnpjaaDoorPKx18
import Derived.Test.YtefiadocljnpjaaDoorPKx19
namespace Go.Proofs.YtefiadocljnpjaaDoor.PK
open Go.RowKit Go.Proofs.YtefiadocljnpjaaDoorW.PrintWords Go.Proofs.YtefiadocljnpjaaDoorW.PrintLast Go.Proofs.YtefiadocljnpjaaDoorW.PrintMore
attribute [local go_sem] max2_int min2_int max_two min_two max_three min_three max_four min_four   -- for this text's walks alone
set_option linter.unusedVariables false
set_option linter.unusedSimpArgs false

/-! ### redressref03_Right: function 34 -/
def redressref03_Right.l0 : Nat → Int → Int → ByteArray → Int → Option (Bool)
  | 0, _, _, _, _ => none
  | k + 1, x3, x178000, x178001, x178002 => if x3 < (x178001.size : Int) then (if 0 ≤ x3 then (if (bt x178001 x3) < 97 then (some false) else (if (bt x178001 x3) > 122 then (some false) else (redressref03_Right.l0 k (wrap64 (x3 + 1)) x178000 x178001 x178002))) else (none)) else (if (x178001.size : Int) ≥ 1 then (if (x178001.size : Int) ≤ 8 then (if x178002 = 0 then ((redressref03_word.f x178001).bind fun t179 => (some (!t179))) else (some false)) else (some false)) else (some false))
def redressref03_Right.f (k : Nat) (a0_0 : Int) (a0_1 : ByteArray) (a0_2 : Int) : Option (Bool) := (redressref03_Arity.f k a0_0).bind fun t178 => (if t178 < 0 then (some false) else (if a0_0 = 1 then (redressref03_Right.l0 k 0 a0_0 a0_1 a0_2) else (if a0_0 = 11 then (if a0_1.toList = ([] : List UInt8) then (if a0_2 ≥ 1 then (some (decide (a0_2 ≤ 3))) else (some false)) else (some false)) else (if a0_0 = 14 then (if a0_1.toList = ([] : List UInt8) then (if a0_2 ≥ 1 then (some (decide (a0_2 ≤ 3))) else (some false)) else (some false)) else (if a0_1.toList = ([] : List UInt8) then (some (a0_2 == 0)) else (some false))))))
theorem redressref03_Right.mono_l : ∀ k, (∀ y0 y1 y2 y3, LeO (redressref03_Right.l0 k y0 y1 y2 y3) (redressref03_Right.l0 (k + 1) y0 y1 y2 y3))
  | 0 => fun _ _ _ _ r h => by simp [redressref03_Right.l0] at h
  | k + 1 => by
    have ih0 := redressref03_Right.mono_l k
    · intro y0 y1 y2 y3
      unfold redressref03_Right.l0
      repeat' first
      | (with_reducible exact ih0 _ _ _ _)
      | (with_reducible exact redressref03_Arity.mono _ _)
      | (with_reducible exact LeO.refl _)
      | (with_reducible exact LeO.none _)
      | (with_reducible refine LeO.ite ?_ ?_)
      | (with_reducible refine LeO.bind ?_ (fun _ => ?_))
      | exact ih0 _ _ _ _
      | exact redressref03_Arity.mono _ _
      | exact LeO.none _
      | refine LeO.ite ?_ ?_
      | refine LeO.bind ?_ (fun _ => ?_)
theorem redressref03_Right.mono : ∀ a0 a1 a2 k, LeO (redressref03_Right.f k a0 a1 a2) (redressref03_Right.f (k + 1) a0 a1 a2) := by
  intro a0 a1 a2 k
  have ih0 := redressref03_Right.mono_l k
  unfold redressref03_Right.f
  repeat' first
      | (with_reducible exact ih0 _ _ _ _)
      | (with_reducible exact redressref03_Arity.mono _ _)
      | (with_reducible exact LeO.refl _)
      | (with_reducible exact LeO.none _)
      | (with_reducible refine LeO.ite ?_ ?_)
      | (with_reducible refine LeO.bind ?_ (fun _ => ?_))
      | exact ih0 _ _ _ _
      | exact redressref03_Arity.mono _ _
      | exact LeO.none _
      | refine LeO.ite ?_ ?_
      | refine LeO.bind ?_ (fun _ => ?_)
set_option maxHeartbeats 8000000 in
set_option maxRecDepth 100000 in
theorem redressref03_Right.calls (k : Nat) (a0_0 : Int) (a0_1 : ByteArray) (a0_2 : Int) (r : Bool) (w : World) (h : redressref03_Right.f k a0_0 a0_1 a0_2 = some r) :
    Calls Tryd.prog 34 #[.agg #[.int .i64 a0_0, .string a0_1, .int .i64 a0_2]] w fun e w' => e = .returned (.bool r) ∧ Below w.heap.size w w' := by
  have hu48 := Tryd.underlying48
  have HB := Aside0.mk (Below.refl w.heap.size w)
  have H : ((redressref03_Arity.f k a0_0).bind fun t178 => (if t178 < 0 then (some false) else (if a0_0 = 1 then (redressref03_Right.l0 k 0 a0_0 a0_1 a0_2) else (if a0_0 = 11 then (if a0_1.toList = ([] : List UInt8) then (if a0_2 ≥ 1 then (some (decide (a0_2 ≤ 3))) else (some false)) else (some false)) else (if a0_0 = 14 then (if a0_1.toList = ([] : List UInt8) then (if a0_2 ≥ 1 then (some (decide (a0_2 ≤ 3))) else (some false)) else (some false)) else (if a0_1.toList = ([] : List UInt8) then (some (a0_2 == 0)) else (some false))))))) = some r := h
  clear h
  replace H := Option.bind_eq_some_iff.mp H
  obtain ⟨t178, A20, H⟩ := H
  replace H : (if t178 < 0 then (some false) else (if a0_0 = 1 then (redressref03_Right.l0 k 0 a0_0 a0_1 a0_2) else (if a0_0 = 11 then (if a0_1.toList = ([] : List UInt8) then (if a0_2 ≥ 1 then (some (decide (a0_2 ≤ 3))) else (some false)) else (some false)) else (if a0_0 = 14 then (if a0_1.toList = ([] : List UInt8) then (if a0_2 ≥ 1 then (some (decide (a0_2 ≤ 3))) else (some false)) else (some false)) else (if a0_1.toList = ([] : List UInt8) then (some (a0_2 == 0)) else (some false)))))) = some r := H
  have A2 := Aside0.mk A20
  clear A20
  by_cases c3 : t178 < 0
  · rw [if_pos c3] at H
    have c3b0 : decide (t178 < 0) = true := decide_eq_true c3
    clear c3
    obtain rfl := Option.some.inj H
    go_enter Tryd.func34, Tryd.ntmps34
    go_wp2_with (first | ((with_reducible refine gate_dst (N := 1) rfl ?_); (try (refine gate_guard (by rfl) ?_; dsimp only)); refine box_event ?hg (N := 1) ?hd (cs := #[.int .i64 a0_0, .string a0_1, .int .i64 a0_2]) (t := 48) ?hr ?_; (case hd => rfl); (case hg => rfl); (case hr => first | (go_simp; done) | (go_simp; rfl)); intro gb177 hg w4 hbox hb; have n0_ := Aside0.mk (below_step (by repeat (first | (with_reducible first | exact HB.out | apply below_alloc | apply pw_below_drewN | apply below_drew1) | exact HB.out)) hb); have n1_ := Aside0.mk (hbox); have n2_ := Aside0.mk ((by rw [hg]; exact (below_size (by repeat (first | (with_reducible first | exact HB.out | apply below_alloc | apply pw_below_drewN | apply below_drew1) | exact HB.out))) : w.heap.size ≤ gb177)); have n3_ := Aside0.mk ((by rw [hg]; exact (below_size (by repeat (first | (with_reducible first | exact HB.out | apply below_alloc | apply pw_below_drewN | apply below_drew1) | exact HB.out))) : w.heap.size ≤ gb177)); clear HB; have HB := n0_; have BK177 := n1_; have GW177 := n2_; have GE177 := n3_; clear n0_ n1_ n2_ n3_; clear hb hbox hg; have hcz5_0 : w4.cell? ⟨gb177, 0, none⟩ = some (.int .i64 a0_0) := (blk_cell BK177.out 0).trans rfl; have hcz5_1 : w4.cell? ⟨gb177, 1, none⟩ = some (.string a0_1) := (blk_cell BK177.out 1).trans rfl; have hcz5_2 : w4.cell? ⟨gb177, 2, none⟩ = some (.int .i64 a0_2) := (blk_cell BK177.out 2).trans rfl; have hfz5_0 := blk_frozen BK177.out 0; have hfz5_1 := blk_frozen BK177.out 1; have hfz5_2 := blk_frozen BK177.out 2) | ((with_reducible refine gate_callee (f := 32) rfl ?_); refine goesL_ (some 6) rfl rfl Tryd.func32 (by kernel_rfl) rfl #[.int .i64 a0_0] rfl (by (try simp only [List.map_toArray, List.map_cons, List.map_nil]); first | done | rfl | (simp only [List.length_drop, List.length_take]; rfl)) ?_; (with_reducible refine (redressref03_Arity.calls k a0_0 t178 _ A2.out).mono ?_); rintro e w' ⟨rfl, ⟨nd, rfl⟩⟩; refine ⟨_, rfl, ?_⟩))
    go_ret
    exact ⟨by first | rfl | (simp [errW_none, errW_some] <;> rfl) | (simp [*, errW_none, errW_some] <;> rfl), by repeat (first | (with_reducible first | exact HB.out | apply below_alloc | apply pw_below_drewN | apply below_drew1 | refine below_set ?_ GE177.out) | exact HB.out)⟩
  · rw [if_neg c3] at H
    have c3b0 : decide (t178 < 0) = false := decide_eq_false c3
    clear c3
    by_cases c6 : a0_0 = 1
    · rw [if_pos c6] at H
      have c6b0 : (a0_0 == 1) = true := beq_iff_eq.mpr c6
      have c6b1 : (a0_0 != 1) = false := bne_eq_false_iff_eq.mpr c6
      clear c6
      have H' := Aside0.mk H
      clear H
      go_enter Tryd.func34, Tryd.ntmps34
      go_wp2_with (first | ((with_reducible refine gate_dst (N := 1) rfl ?_); (try (refine gate_guard (by rfl) ?_; dsimp only)); refine box_event ?hg (N := 1) ?hd (cs := #[.int .i64 a0_0, .string a0_1, .int .i64 a0_2]) (t := 48) ?hr ?_; (case hd => rfl); (case hg => rfl); (case hr => first | (go_simp; done) | (go_simp; rfl)); intro gb177 hg w7 hbox hb; have n0_ := Aside0.mk (below_step (by repeat (first | (with_reducible first | exact HB.out | apply below_alloc | apply pw_below_drewN | apply below_drew1) | exact HB.out)) hb); have n1_ := Aside0.mk (hbox); have n2_ := Aside0.mk ((by rw [hg]; exact (below_size (by repeat (first | (with_reducible first | exact HB.out | apply below_alloc | apply pw_below_drewN | apply below_drew1) | exact HB.out))) : w.heap.size ≤ gb177)); have n3_ := Aside0.mk ((by rw [hg]; exact (below_size (by repeat (first | (with_reducible first | exact HB.out | apply below_alloc | apply pw_below_drewN | apply below_drew1) | exact HB.out))) : w.heap.size ≤ gb177)); clear HB; have HB := n0_; have BK177 := n1_; have GW177 := n2_; have GE177 := n3_; clear n0_ n1_ n2_ n3_; clear hb hbox hg; have hcz8_0 : w7.cell? ⟨gb177, 0, none⟩ = some (.int .i64 a0_0) := (blk_cell BK177.out 0).trans rfl; have hcz8_1 : w7.cell? ⟨gb177, 1, none⟩ = some (.string a0_1) := (blk_cell BK177.out 1).trans rfl; have hcz8_2 : w7.cell? ⟨gb177, 2, none⟩ = some (.int .i64 a0_2) := (blk_cell BK177.out 2).trans rfl; have hfz8_0 := blk_frozen BK177.out 0; have hfz8_1 := blk_frozen BK177.out 1; have hfz8_2 := blk_frozen BK177.out 2) | ((with_reducible refine gate_callee (f := 32) rfl ?_); refine goesL_ (some 6) rfl rfl Tryd.func32 (by kernel_rfl) rfl #[.int .i64 a0_0] rfl (by (try simp only [List.map_toArray, List.map_cons, List.map_nil]); first | done | rfl | (simp only [List.length_drop, List.length_take]; rfl)) ?_; (with_reducible refine (redressref03_Arity.calls k a0_0 t178 _ A2.out).mono ?_); rintro e w' ⟨rfl, ⟨nd, rfl⟩⟩; refine ⟨_, rfl, ?_⟩))
      go_loopg [3] k (fun kq v3 w' => ∃ (x3_1 : Int), v3 = .int .i64 x3_1 ∧ Aside0 (redressref03_Right.l0 kq x3_1 a0_0 a0_1 a0_2 = some r) ∧ Aside0 (kq ≤ k) ∧ Aside0 (w'.heap[gb177]? = some (.cells #[.int .i64 a0_0, .string a0_1, .int .i64 a0_2] 48 (0, 0))) ∧ Aside0 (Below w.heap.size w w'))
      case atStart => exact ⟨(0), (by first | rfl | (simp; done) | (simp [*]; done)), H', ⟨Nat.le_refl _⟩, ⟨by (with_reducible repeat (first | refine blk_drewN ?_ _ | refine blk_drew ?_ | refine blk_alloc ?_ _)); exact BK177.out⟩, ⟨by repeat (first | (with_reducible first | exact HB.out | apply below_alloc | apply pw_below_drewN | apply below_drew1 | refine below_set ?_ GE177.out) | exact HB.out)⟩⟩
      case round =>
        clear H'
        try clear p2
        try clear c3
        try clear c3b0
        try clear c6
        try clear c6b0
        try clear c6b1
        try clear hcz5_0
        try clear hcz5_1
        try clear hcz5_2
        try clear hcz8_0
        try clear hcz8_1
        try clear hcz8_2
        try clear hfz5_0
        try clear hfz5_1
        try clear hfz5_2
        try clear hfz8_0
        try clear hfz8_1
        try clear hfz8_2
        obtain ⟨x3_1, rfl, HA, HK1, BK177, HB⟩ := hrel
        cases gk with
        | zero => exact absurd HA.out (by simp [redressref03_Right.l0])
        | succ k1 =>
          have H := HA.out
          clear HA
          simp only [redressref03_Right.l0] at H
          by_cases c9 : x3_1 < (a0_1.size : Int)
          · rw [if_pos c9] at H
            have c9b0 : decide (x3_1 < (a0_1.size : Int)) = true := decide_eq_true c9
            clear c9
            by_cases c10 : 0 ≤ x3_1
            · rw [if_pos c10] at H
              have c10b0 : decide (0 ≤ x3_1) = true := decide_eq_true c10
              clear c10
              by_cases c12 : (bt a0_1 x3_1) < 97
              · rw [if_pos c12] at H
                have c12b0 : decide ((bt a0_1 x3_1) < 97) = true := decide_eq_true c12
                clear c12
                obtain rfl := Option.some.inj H
                have hcz13_0 : wr.cell? ⟨gb177, 0, none⟩ = some (.int .i64 a0_0) := (blk_cell BK177.out 0).trans rfl
                have hcz13_1 : wr.cell? ⟨gb177, 1, none⟩ = some (.string a0_1) := (blk_cell BK177.out 1).trans rfl
                have hcz13_2 : wr.cell? ⟨gb177, 2, none⟩ = some (.int .i64 a0_2) := (blk_cell BK177.out 2).trans rfl
                have hfz13_0 := blk_frozen BK177.out 0
                have hfz13_1 := blk_frozen BK177.out 1
                have hfz13_2 := blk_frozen BK177.out 2
                have p11 : 0 ≤ (x3_1 : Int) := of_decide_eq_true (by first | (with_reducible assumption) | assumption)
                have q11 : x3_1 < (a0_1.size : Int) := of_decide_eq_true (by first | (with_reducible assumption) | assumption)
                have hx11 := bt_at a0_1 x3_1
                replace p11 := eq_true p11
                replace q11 := eq_true q11
                go_wp2
                go_ret
                exact ⟨by first | rfl | (simp [errW_none, errW_some] <;> rfl) | (simp [*, errW_none, errW_some] <;> rfl), by repeat (first | (with_reducible first | exact HB.out | apply below_alloc | apply pw_below_drewN | apply below_drew1 | refine below_set ?_ GE177.out) | exact HB.out)⟩
              · rw [if_neg c12] at H
                have c12b0 : decide ((bt a0_1 x3_1) < 97) = false := decide_eq_false c12
                clear c12
                by_cases c15 : (bt a0_1 x3_1) > 122
                · rw [if_pos c15] at H
                  have c15b0 : decide (122 < (bt a0_1 x3_1)) = true := decide_eq_true c15
                  clear c15
                  obtain rfl := Option.some.inj H
                  have hcz16_0 : wr.cell? ⟨gb177, 0, none⟩ = some (.int .i64 a0_0) := (blk_cell BK177.out 0).trans rfl
                  have hcz16_1 : wr.cell? ⟨gb177, 1, none⟩ = some (.string a0_1) := (blk_cell BK177.out 1).trans rfl
                  have hcz16_2 : wr.cell? ⟨gb177, 2, none⟩ = some (.int .i64 a0_2) := (blk_cell BK177.out 2).trans rfl
                  have hfz16_0 := blk_frozen BK177.out 0
                  have hfz16_1 := blk_frozen BK177.out 1
                  have hfz16_2 := blk_frozen BK177.out 2
                  have p11 : 0 ≤ (x3_1 : Int) := of_decide_eq_true (by first | (with_reducible assumption) | assumption)
                  have q11 : x3_1 < (a0_1.size : Int) := of_decide_eq_true (by first | (with_reducible assumption) | assumption)
                  have hx11 := bt_at a0_1 x3_1
                  replace p11 := eq_true p11
                  replace q11 := eq_true q11
                  have p14 : 0 ≤ (x3_1 : Int) := of_decide_eq_true (by first | (with_reducible assumption) | assumption)
                  have q14 : x3_1 < (a0_1.size : Int) := of_decide_eq_true (by first | (with_reducible assumption) | assumption)
                  have hx14 := bt_at a0_1 x3_1
                  replace p14 := eq_true p14
                  replace q14 := eq_true q14
                  go_wp2
                  go_ret
                  exact ⟨by first | rfl | (simp [errW_none, errW_some] <;> rfl) | (simp [*, errW_none, errW_some] <;> rfl), by repeat (first | (with_reducible first | exact HB.out | apply below_alloc | apply pw_below_drewN | apply below_drew1 | refine below_set ?_ GE177.out) | exact HB.out)⟩
                · rw [if_neg c15] at H
                  have c15b0 : decide (122 < (bt a0_1 x3_1)) = false := decide_eq_false c15
                  clear c15
                  have H' := Aside0.mk H
                  clear H
                  have hcz17_0 : wr.cell? ⟨gb177, 0, none⟩ = some (.int .i64 a0_0) := (blk_cell BK177.out 0).trans rfl
                  have hcz17_1 : wr.cell? ⟨gb177, 1, none⟩ = some (.string a0_1) := (blk_cell BK177.out 1).trans rfl
                  have hcz17_2 : wr.cell? ⟨gb177, 2, none⟩ = some (.int .i64 a0_2) := (blk_cell BK177.out 2).trans rfl
                  have hfz17_0 := blk_frozen BK177.out 0
                  have hfz17_1 := blk_frozen BK177.out 1
                  have hfz17_2 := blk_frozen BK177.out 2
                  have p11 : 0 ≤ (x3_1 : Int) := of_decide_eq_true (by first | (with_reducible assumption) | assumption)
                  have q11 : x3_1 < (a0_1.size : Int) := of_decide_eq_true (by first | (with_reducible assumption) | assumption)
                  have hx11 := bt_at a0_1 x3_1
                  replace p11 := eq_true p11
                  replace q11 := eq_true q11
                  have p14 : 0 ≤ (x3_1 : Int) := of_decide_eq_true (by first | (with_reducible assumption) | assumption)
                  have q14 : x3_1 < (a0_1.size : Int) := of_decide_eq_true (by first | (with_reducible assumption) | assumption)
                  have hx14 := bt_at a0_1 x3_1
                  replace p14 := eq_true p14
                  replace q14 := eq_true q14
                  go_wp2
                  go_roundg k1
                  case measure => have := HK1.out; omega
                  case rel => exact ⟨(wrap64 (x3_1 + 1)), (by first | rfl | (simp; done) | (simp [*]; done)), H', ⟨by have := HK1.out; omega⟩, ⟨by (with_reducible repeat (first | refine blk_drewN ?_ _ | refine blk_drew ?_ | refine blk_alloc ?_ _)); exact BK177.out⟩, ⟨by repeat (first | (with_reducible first | exact HB.out | apply below_alloc | apply pw_below_drewN | apply below_drew1 | refine below_set ?_ GE177.out) | exact HB.out)⟩⟩
            · rw [if_neg c10] at H
              exact absurd H (by simp)
          · rw [if_neg c9] at H
            have c9b0 : decide (x3_1 < (a0_1.size : Int)) = false := decide_eq_false c9
            clear c9
            by_cases c18 : (a0_1.size : Int) ≥ 1
            · rw [if_pos c18] at H
              have c18b0 : decide (1 ≤ (a0_1.size : Int)) = true := decide_eq_true c18
              have c18b1 : decide (1 ≤ a0_1.size) = true := decide_eq_true (by omega)
              clear c18
              by_cases c19 : (a0_1.size : Int) ≤ 8
              · rw [if_pos c19] at H
                have c19b0 : decide ((a0_1.size : Int) ≤ 8) = true := decide_eq_true c19
                have c19b1 : decide (a0_1.size ≤ 8) = true := decide_eq_true (by omega)
                clear c19
                by_cases c20 : a0_2 = 0
                · rw [if_pos c20] at H
                  have c20b0 : (a0_2 == 0) = true := beq_iff_eq.mpr c20
                  have c20b1 : (a0_2 != 0) = false := bne_eq_false_iff_eq.mpr c20
                  clear c20
                  replace H := Option.bind_eq_some_iff.mp H
                  obtain ⟨t179, A210, H⟩ := H
                  replace H : (some (!t179)) = some r := H
                  have A21 := Aside0.mk A210
                  clear A210
                  obtain rfl := Option.some.inj H
                  have hcz22_0 : wr.cell? ⟨gb177, 0, none⟩ = some (.int .i64 a0_0) := (blk_cell BK177.out 0).trans rfl
                  have hcz22_1 : wr.cell? ⟨gb177, 1, none⟩ = some (.string a0_1) := (blk_cell BK177.out 1).trans rfl
                  have hcz22_2 : wr.cell? ⟨gb177, 2, none⟩ = some (.int .i64 a0_2) := (blk_cell BK177.out 2).trans rfl
                  have hfz22_0 := blk_frozen BK177.out 0
                  have hfz22_1 := blk_frozen BK177.out 1
                  have hfz22_2 := blk_frozen BK177.out 2
                  go_wp2_with (first | (go_at_call 71; (with_reducible refine (redressref03_word.calls a0_1 t179 _ A21.out).mono ?_); rintro e w' ⟨rfl, ⟨nd, rfl⟩⟩))
                  go_ret
                  exact ⟨by first | rfl | (simp [errW_none, errW_some] <;> rfl) | (simp [*, errW_none, errW_some] <;> rfl), by repeat (first | (with_reducible first | exact HB.out | apply below_alloc | apply pw_below_drewN | apply below_drew1 | refine below_set ?_ GE177.out) | exact HB.out)⟩
                · rw [if_neg c20] at H
                  have c20b0 : (a0_2 == 0) = false := beq_eq_false_iff_ne.mpr c20
                  have c20b1 : (a0_2 != 0) = true := bne_iff_ne.mpr c20
                  obtain rfl := Option.some.inj H
                  have hcz23_0 : wr.cell? ⟨gb177, 0, none⟩ = some (.int .i64 a0_0) := (blk_cell BK177.out 0).trans rfl
                  have hcz23_1 : wr.cell? ⟨gb177, 1, none⟩ = some (.string a0_1) := (blk_cell BK177.out 1).trans rfl
                  have hcz23_2 : wr.cell? ⟨gb177, 2, none⟩ = some (.int .i64 a0_2) := (blk_cell BK177.out 2).trans rfl
                  have hfz23_0 := blk_frozen BK177.out 0
                  have hfz23_1 := blk_frozen BK177.out 1
                  have hfz23_2 := blk_frozen BK177.out 2
                  go_wp2
                  go_ret
                  exact ⟨by first | rfl | (simp [errW_none, errW_some] <;> rfl) | (simp [*, errW_none, errW_some] <;> rfl), by repeat (first | (with_reducible first | exact HB.out | apply below_alloc | apply pw_below_drewN | apply below_drew1 | refine below_set ?_ GE177.out) | exact HB.out)⟩
              · rw [if_neg c19] at H
                have c19b0 : decide ((a0_1.size : Int) ≤ 8) = false := decide_eq_false c19
                have c19b1 : decide (a0_1.size ≤ 8) = false := decide_eq_false (by omega)
                clear c19
                obtain rfl := Option.some.inj H
                have hcz24_0 : wr.cell? ⟨gb177, 0, none⟩ = some (.int .i64 a0_0) := (blk_cell BK177.out 0).trans rfl
                have hcz24_1 : wr.cell? ⟨gb177, 1, none⟩ = some (.string a0_1) := (blk_cell BK177.out 1).trans rfl
                have hcz24_2 : wr.cell? ⟨gb177, 2, none⟩ = some (.int .i64 a0_2) := (blk_cell BK177.out 2).trans rfl
                have hfz24_0 := blk_frozen BK177.out 0
                have hfz24_1 := blk_frozen BK177.out 1
                have hfz24_2 := blk_frozen BK177.out 2
                go_wp2
                go_ret
                exact ⟨by first | rfl | (simp [errW_none, errW_some] <;> rfl) | (simp [*, errW_none, errW_some] <;> rfl), by repeat (first | (with_reducible first | exact HB.out | apply below_alloc | apply pw_below_drewN | apply below_drew1 | refine below_set ?_ GE177.out) | exact HB.out)⟩
            · rw [if_neg c18] at H
              have c18b0 : decide (1 ≤ (a0_1.size : Int)) = false := decide_eq_false c18
              have c18b1 : decide (1 ≤ a0_1.size) = false := decide_eq_false (by omega)
              clear c18
              obtain rfl := Option.some.inj H
              have hcz25_0 : wr.cell? ⟨gb177, 0, none⟩ = some (.int .i64 a0_0) := (blk_cell BK177.out 0).trans rfl
              have hcz25_1 : wr.cell? ⟨gb177, 1, none⟩ = some (.string a0_1) := (blk_cell BK177.out 1).trans rfl
              have hcz25_2 : wr.cell? ⟨gb177, 2, none⟩ = some (.int .i64 a0_2) := (blk_cell BK177.out 2).trans rfl
              have hfz25_0 := blk_frozen BK177.out 0
              have hfz25_1 := blk_frozen BK177.out 1
              have hfz25_2 := blk_frozen BK177.out 2
              go_wp2
              go_ret
              exact ⟨by first | rfl | (simp [errW_none, errW_some] <;> rfl) | (simp [*, errW_none, errW_some] <;> rfl), by repeat (first | (with_reducible first | exact HB.out | apply below_alloc | apply pw_below_drewN | apply below_drew1 | refine below_set ?_ GE177.out) | exact HB.out)⟩
    · rw [if_neg c6] at H
      have c6b0 : (a0_0 == 1) = false := beq_eq_false_iff_ne.mpr c6
      have c6b1 : (a0_0 != 1) = true := bne_iff_ne.mpr c6
      by_cases c26 : a0_0 = 11
      · rw [if_pos c26] at H
        have c26b0 : (a0_0 == 11) = true := beq_iff_eq.mpr c26
        have c26b1 : (a0_0 != 11) = false := bne_eq_false_iff_eq.mpr c26
        clear c26
        by_cases c27 : a0_1.toList = ([] : List UInt8)
        · rw [if_pos c27] at H
          have c27b0 : (a0_1.toList == ([] : List UInt8)) = true := beq_iff_eq.mpr c27
          have c27b1 : (a0_1.toList != ([] : List UInt8)) = false := bne_eq_false_iff_eq.mpr c27
          clear c27
          by_cases c28 : a0_2 ≥ 1
          · rw [if_pos c28] at H
            have c28b0 : decide (1 ≤ a0_2) = true := decide_eq_true c28
            clear c28
            obtain rfl := Option.some.inj H
            go_enter Tryd.func34, Tryd.ntmps34
            go_wp2_with (first | ((with_reducible refine gate_dst (N := 1) rfl ?_); (try (refine gate_guard (by rfl) ?_; dsimp only)); refine box_event ?hg (N := 1) ?hd (cs := #[.int .i64 a0_0, .string a0_1, .int .i64 a0_2]) (t := 48) ?hr ?_; (case hd => rfl); (case hg => rfl); (case hr => first | (go_simp; done) | (go_simp; rfl)); intro gb177 hg w29 hbox hb; have n0_ := Aside0.mk (below_step (by repeat (first | (with_reducible first | exact HB.out | apply below_alloc | apply pw_below_drewN | apply below_drew1) | exact HB.out)) hb); have n1_ := Aside0.mk (hbox); have n2_ := Aside0.mk ((by rw [hg]; exact (below_size (by repeat (first | (with_reducible first | exact HB.out | apply below_alloc | apply pw_below_drewN | apply below_drew1) | exact HB.out))) : w.heap.size ≤ gb177)); have n3_ := Aside0.mk ((by rw [hg]; exact (below_size (by repeat (first | (with_reducible first | exact HB.out | apply below_alloc | apply pw_below_drewN | apply below_drew1) | exact HB.out))) : w.heap.size ≤ gb177)); clear HB; have HB := n0_; have BK177 := n1_; have GW177 := n2_; have GE177 := n3_; clear n0_ n1_ n2_ n3_; clear hb hbox hg; have hcz30_0 : w29.cell? ⟨gb177, 0, none⟩ = some (.int .i64 a0_0) := (blk_cell BK177.out 0).trans rfl; have hcz30_1 : w29.cell? ⟨gb177, 1, none⟩ = some (.string a0_1) := (blk_cell BK177.out 1).trans rfl; have hcz30_2 : w29.cell? ⟨gb177, 2, none⟩ = some (.int .i64 a0_2) := (blk_cell BK177.out 2).trans rfl; have hfz30_0 := blk_frozen BK177.out 0; have hfz30_1 := blk_frozen BK177.out 1; have hfz30_2 := blk_frozen BK177.out 2) | ((with_reducible refine gate_callee (f := 32) rfl ?_); refine goesL_ (some 6) rfl rfl Tryd.func32 (by kernel_rfl) rfl #[.int .i64 a0_0] rfl (by (try simp only [List.map_toArray, List.map_cons, List.map_nil]); first | done | rfl | (simp only [List.length_drop, List.length_take]; rfl)) ?_; (with_reducible refine (redressref03_Arity.calls k a0_0 t178 _ A2.out).mono ?_); rintro e w' ⟨rfl, ⟨nd, rfl⟩⟩; refine ⟨_, rfl, ?_⟩))
            go_ret
            exact ⟨by first | rfl | (simp [errW_none, errW_some] <;> rfl) | (simp [*, errW_none, errW_some] <;> rfl), by repeat (first | (with_reducible first | exact HB.out | apply below_alloc | apply pw_below_drewN | apply below_drew1 | refine below_set ?_ GE177.out) | exact HB.out)⟩
          · rw [if_neg c28] at H
            have c28b0 : decide (1 ≤ a0_2) = false := decide_eq_false c28
            clear c28
            obtain rfl := Option.some.inj H
            go_enter Tryd.func34, Tryd.ntmps34
            go_wp2_with (first | ((with_reducible refine gate_dst (N := 1) rfl ?_); (try (refine gate_guard (by rfl) ?_; dsimp only)); refine box_event ?hg (N := 1) ?hd (cs := #[.int .i64 a0_0, .string a0_1, .int .i64 a0_2]) (t := 48) ?hr ?_; (case hd => rfl); (case hg => rfl); (case hr => first | (go_simp; done) | (go_simp; rfl)); intro gb177 hg w31 hbox hb; have n0_ := Aside0.mk (below_step (by repeat (first | (with_reducible first | exact HB.out | apply below_alloc | apply pw_below_drewN | apply below_drew1) | exact HB.out)) hb); have n1_ := Aside0.mk (hbox); have n2_ := Aside0.mk ((by rw [hg]; exact (below_size (by repeat (first | (with_reducible first | exact HB.out | apply below_alloc | apply pw_below_drewN | apply below_drew1) | exact HB.out))) : w.heap.size ≤ gb177)); have n3_ := Aside0.mk ((by rw [hg]; exact (below_size (by repeat (first | (with_reducible first | exact HB.out | apply below_alloc | apply pw_below_drewN | apply below_drew1) | exact HB.out))) : w.heap.size ≤ gb177)); clear HB; have HB := n0_; have BK177 := n1_; have GW177 := n2_; have GE177 := n3_; clear n0_ n1_ n2_ n3_; clear hb hbox hg; have hcz32_0 : w31.cell? ⟨gb177, 0, none⟩ = some (.int .i64 a0_0) := (blk_cell BK177.out 0).trans rfl; have hcz32_1 : w31.cell? ⟨gb177, 1, none⟩ = some (.string a0_1) := (blk_cell BK177.out 1).trans rfl; have hcz32_2 : w31.cell? ⟨gb177, 2, none⟩ = some (.int .i64 a0_2) := (blk_cell BK177.out 2).trans rfl; have hfz32_0 := blk_frozen BK177.out 0; have hfz32_1 := blk_frozen BK177.out 1; have hfz32_2 := blk_frozen BK177.out 2) | ((with_reducible refine gate_callee (f := 32) rfl ?_); refine goesL_ (some 6) rfl rfl Tryd.func32 (by kernel_rfl) rfl #[.int .i64 a0_0] rfl (by (try simp only [List.map_toArray, List.map_cons, List.map_nil]); first | done | rfl | (simp only [List.length_drop, List.length_take]; rfl)) ?_; (with_reducible refine (redressref03_Arity.calls k a0_0 t178 _ A2.out).mono ?_); rintro e w' ⟨rfl, ⟨nd, rfl⟩⟩; refine ⟨_, rfl, ?_⟩))
            go_ret
            exact ⟨by first | rfl | (simp [errW_none, errW_some] <;> rfl) | (simp [*, errW_none, errW_some] <;> rfl), by repeat (first | (with_reducible first | exact HB.out | apply below_alloc | apply pw_below_drewN | apply below_drew1 | refine below_set ?_ GE177.out) | exact HB.out)⟩
        · rw [if_neg c27] at H
          have c27b0 : (a0_1.toList == ([] : List UInt8)) = false := beq_eq_false_iff_ne.mpr c27
          have c27b1 : (a0_1.toList != ([] : List UInt8)) = true := bne_iff_ne.mpr c27
          obtain rfl := Option.some.inj H
          go_enter Tryd.func34, Tryd.ntmps34
          go_wp2_with (first | ((with_reducible refine gate_dst (N := 1) rfl ?_); (try (refine gate_guard (by rfl) ?_; dsimp only)); refine box_event ?hg (N := 1) ?hd (cs := #[.int .i64 a0_0, .string a0_1, .int .i64 a0_2]) (t := 48) ?hr ?_; (case hd => rfl); (case hg => rfl); (case hr => first | (go_simp; done) | (go_simp; rfl)); intro gb177 hg w33 hbox hb; have n0_ := Aside0.mk (below_step (by repeat (first | (with_reducible first | exact HB.out | apply below_alloc | apply pw_below_drewN | apply below_drew1) | exact HB.out)) hb); have n1_ := Aside0.mk (hbox); have n2_ := Aside0.mk ((by rw [hg]; exact (below_size (by repeat (first | (with_reducible first | exact HB.out | apply below_alloc | apply pw_below_drewN | apply below_drew1) | exact HB.out))) : w.heap.size ≤ gb177)); have n3_ := Aside0.mk ((by rw [hg]; exact (below_size (by repeat (first | (with_reducible first | exact HB.out | apply below_alloc | apply pw_below_drewN | apply below_drew1) | exact HB.out))) : w.heap.size ≤ gb177)); clear HB; have HB := n0_; have BK177 := n1_; have GW177 := n2_; have GE177 := n3_; clear n0_ n1_ n2_ n3_; clear hb hbox hg; have hcz34_0 : w33.cell? ⟨gb177, 0, none⟩ = some (.int .i64 a0_0) := (blk_cell BK177.out 0).trans rfl; have hcz34_1 : w33.cell? ⟨gb177, 1, none⟩ = some (.string a0_1) := (blk_cell BK177.out 1).trans rfl; have hcz34_2 : w33.cell? ⟨gb177, 2, none⟩ = some (.int .i64 a0_2) := (blk_cell BK177.out 2).trans rfl; have hfz34_0 := blk_frozen BK177.out 0; have hfz34_1 := blk_frozen BK177.out 1; have hfz34_2 := blk_frozen BK177.out 2) | ((with_reducible refine gate_callee (f := 32) rfl ?_); refine goesL_ (some 6) rfl rfl Tryd.func32 (by kernel_rfl) rfl #[.int .i64 a0_0] rfl (by (try simp only [List.map_toArray, List.map_cons, List.map_nil]); first | done | rfl | (simp only [List.length_drop, List.length_take]; rfl)) ?_; (with_reducible refine (redressref03_Arity.calls k a0_0 t178 _ A2.out).mono ?_); rintro e w' ⟨rfl, ⟨nd, rfl⟩⟩; refine ⟨_, rfl, ?_⟩))
          go_ret
          exact ⟨by first | rfl | (simp [errW_none, errW_some] <;> rfl) | (simp [*, errW_none, errW_some] <;> rfl), by repeat (first | (with_reducible first | exact HB.out | apply below_alloc | apply pw_below_drewN | apply below_drew1 | refine below_set ?_ GE177.out) | exact HB.out)⟩
      · rw [if_neg c26] at H
        have c26b0 : (a0_0 == 11) = false := beq_eq_false_iff_ne.mpr c26
        have c26b1 : (a0_0 != 11) = true := bne_iff_ne.mpr c26
        by_cases c35 : a0_0 = 14
        · rw [if_pos c35] at H
          have c35b0 : (a0_0 == 14) = true := beq_iff_eq.mpr c35
          have c35b1 : (a0_0 != 14) = false := bne_eq_false_iff_eq.mpr c35
          clear c35
          by_cases c36 : a0_1.toList = ([] : List UInt8)
          · rw [if_pos c36] at H
            have c36b0 : (a0_1.toList == ([] : List UInt8)) = true := beq_iff_eq.mpr c36
            have c36b1 : (a0_1.toList != ([] : List UInt8)) = false := bne_eq_false_iff_eq.mpr c36
            clear c36
            by_cases c37 : a0_2 ≥ 1
            · rw [if_pos c37] at H
              have c37b0 : decide (1 ≤ a0_2) = true := decide_eq_true c37
              clear c37
              obtain rfl := Option.some.inj H
              go_enter Tryd.func34, Tryd.ntmps34
              go_wp2_with (first | ((with_reducible refine gate_dst (N := 1) rfl ?_); (try (refine gate_guard (by rfl) ?_; dsimp only)); refine box_event ?hg (N := 1) ?hd (cs := #[.int .i64 a0_0, .string a0_1, .int .i64 a0_2]) (t := 48) ?hr ?_; (case hd => rfl); (case hg => rfl); (case hr => first | (go_simp; done) | (go_simp; rfl)); intro gb177 hg w38 hbox hb; have n0_ := Aside0.mk (below_step (by repeat (first | (with_reducible first | exact HB.out | apply below_alloc | apply pw_below_drewN | apply below_drew1) | exact HB.out)) hb); have n1_ := Aside0.mk (hbox); have n2_ := Aside0.mk ((by rw [hg]; exact (below_size (by repeat (first | (with_reducible first | exact HB.out | apply below_alloc | apply pw_below_drewN | apply below_drew1) | exact HB.out))) : w.heap.size ≤ gb177)); have n3_ := Aside0.mk ((by rw [hg]; exact (below_size (by repeat (first | (with_reducible first | exact HB.out | apply below_alloc | apply pw_below_drewN | apply below_drew1) | exact HB.out))) : w.heap.size ≤ gb177)); clear HB; have HB := n0_; have BK177 := n1_; have GW177 := n2_; have GE177 := n3_; clear n0_ n1_ n2_ n3_; clear hb hbox hg; have hcz39_0 : w38.cell? ⟨gb177, 0, none⟩ = some (.int .i64 a0_0) := (blk_cell BK177.out 0).trans rfl; have hcz39_1 : w38.cell? ⟨gb177, 1, none⟩ = some (.string a0_1) := (blk_cell BK177.out 1).trans rfl; have hcz39_2 : w38.cell? ⟨gb177, 2, none⟩ = some (.int .i64 a0_2) := (blk_cell BK177.out 2).trans rfl; have hfz39_0 := blk_frozen BK177.out 0; have hfz39_1 := blk_frozen BK177.out 1; have hfz39_2 := blk_frozen BK177.out 2) | ((with_reducible refine gate_callee (f := 32) rfl ?_); refine goesL_ (some 6) rfl rfl Tryd.func32 (by kernel_rfl) rfl #[.int .i64 a0_0] rfl (by (try simp only [List.map_toArray, List.map_cons, List.map_nil]); first | done | rfl | (simp only [List.length_drop, List.length_take]; rfl)) ?_; (with_reducible refine (redressref03_Arity.calls k a0_0 t178 _ A2.out).mono ?_); rintro e w' ⟨rfl, ⟨nd, rfl⟩⟩; refine ⟨_, rfl, ?_⟩))
              go_ret
              exact ⟨by first | rfl | (simp [errW_none, errW_some] <;> rfl) | (simp [*, errW_none, errW_some] <;> rfl), by repeat (first | (with_reducible first | exact HB.out | apply below_alloc | apply pw_below_drewN | apply below_drew1 | refine below_set ?_ GE177.out) | exact HB.out)⟩
            · rw [if_neg c37] at H
              have c37b0 : decide (1 ≤ a0_2) = false := decide_eq_false c37
              clear c37
              obtain rfl := Option.some.inj H
              go_enter Tryd.func34, Tryd.ntmps34
              go_wp2_with (first | ((with_reducible refine gate_dst (N := 1) rfl ?_); (try (refine gate_guard (by rfl) ?_; dsimp only)); refine box_event ?hg (N := 1) ?hd (cs := #[.int .i64 a0_0, .string a0_1, .int .i64 a0_2]) (t := 48) ?hr ?_; (case hd => rfl); (case hg => rfl); (case hr => first | (go_simp; done) | (go_simp; rfl)); intro gb177 hg w40 hbox hb; have n0_ := Aside0.mk (below_step (by repeat (first | (with_reducible first | exact HB.out | apply below_alloc | apply pw_below_drewN | apply below_drew1) | exact HB.out)) hb); have n1_ := Aside0.mk (hbox); have n2_ := Aside0.mk ((by rw [hg]; exact (below_size (by repeat (first | (with_reducible first | exact HB.out | apply below_alloc | apply pw_below_drewN | apply below_drew1) | exact HB.out))) : w.heap.size ≤ gb177)); have n3_ := Aside0.mk ((by rw [hg]; exact (below_size (by repeat (first | (with_reducible first | exact HB.out | apply below_alloc | apply pw_below_drewN | apply below_drew1) | exact HB.out))) : w.heap.size ≤ gb177)); clear HB; have HB := n0_; have BK177 := n1_; have GW177 := n2_; have GE177 := n3_; clear n0_ n1_ n2_ n3_; clear hb hbox hg; have hcz41_0 : w40.cell? ⟨gb177, 0, none⟩ = some (.int .i64 a0_0) := (blk_cell BK177.out 0).trans rfl; have hcz41_1 : w40.cell? ⟨gb177, 1, none⟩ = some (.string a0_1) := (blk_cell BK177.out 1).trans rfl; have hcz41_2 : w40.cell? ⟨gb177, 2, none⟩ = some (.int .i64 a0_2) := (blk_cell BK177.out 2).trans rfl; have hfz41_0 := blk_frozen BK177.out 0; have hfz41_1 := blk_frozen BK177.out 1; have hfz41_2 := blk_frozen BK177.out 2) | ((with_reducible refine gate_callee (f := 32) rfl ?_); refine goesL_ (some 6) rfl rfl Tryd.func32 (by kernel_rfl) rfl #[.int .i64 a0_0] rfl (by (try simp only [List.map_toArray, List.map_cons, List.map_nil]); first | done | rfl | (simp only [List.length_drop, List.length_take]; rfl)) ?_; (with_reducible refine (redressref03_Arity.calls k a0_0 t178 _ A2.out).mono ?_); rintro e w' ⟨rfl, ⟨nd, rfl⟩⟩; refine ⟨_, rfl, ?_⟩))
              go_ret
              exact ⟨by first | rfl | (simp [errW_none, errW_some] <;> rfl) | (simp [*, errW_none, errW_some] <;> rfl), by repeat (first | (with_reducible first | exact HB.out | apply below_alloc | apply pw_below_drewN | apply below_drew1 | refine below_set ?_ GE177.out) | exact HB.out)⟩
          · rw [if_neg c36] at H
            have c36b0 : (a0_1.toList == ([] : List UInt8)) = false := beq_eq_false_iff_ne.mpr c36
            have c36b1 : (a0_1.toList != ([] : List UInt8)) = true := bne_iff_ne.mpr c36
            obtain rfl := Option.some.inj H
            go_enter Tryd.func34, Tryd.ntmps34
            go_wp2_with (first | ((with_reducible refine gate_dst (N := 1) rfl ?_); (try (refine gate_guard (by rfl) ?_; dsimp only)); refine box_event ?hg (N := 1) ?hd (cs := #[.int .i64 a0_0, .string a0_1, .int .i64 a0_2]) (t := 48) ?hr ?_; (case hd => rfl); (case hg => rfl); (case hr => first | (go_simp; done) | (go_simp; rfl)); intro gb177 hg w42 hbox hb; have n0_ := Aside0.mk (below_step (by repeat (first | (with_reducible first | exact HB.out | apply below_alloc | apply pw_below_drewN | apply below_drew1) | exact HB.out)) hb); have n1_ := Aside0.mk (hbox); have n2_ := Aside0.mk ((by rw [hg]; exact (below_size (by repeat (first | (with_reducible first | exact HB.out | apply below_alloc | apply pw_below_drewN | apply below_drew1) | exact HB.out))) : w.heap.size ≤ gb177)); have n3_ := Aside0.mk ((by rw [hg]; exact (below_size (by repeat (first | (with_reducible first | exact HB.out | apply below_alloc | apply pw_below_drewN | apply below_drew1) | exact HB.out))) : w.heap.size ≤ gb177)); clear HB; have HB := n0_; have BK177 := n1_; have GW177 := n2_; have GE177 := n3_; clear n0_ n1_ n2_ n3_; clear hb hbox hg; have hcz43_0 : w42.cell? ⟨gb177, 0, none⟩ = some (.int .i64 a0_0) := (blk_cell BK177.out 0).trans rfl; have hcz43_1 : w42.cell? ⟨gb177, 1, none⟩ = some (.string a0_1) := (blk_cell BK177.out 1).trans rfl; have hcz43_2 : w42.cell? ⟨gb177, 2, none⟩ = some (.int .i64 a0_2) := (blk_cell BK177.out 2).trans rfl; have hfz43_0 := blk_frozen BK177.out 0; have hfz43_1 := blk_frozen BK177.out 1; have hfz43_2 := blk_frozen BK177.out 2) | ((with_reducible refine gate_callee (f := 32) rfl ?_); refine goesL_ (some 6) rfl rfl Tryd.func32 (by kernel_rfl) rfl #[.int .i64 a0_0] rfl (by (try simp only [List.map_toArray, List.map_cons, List.map_nil]); first | done | rfl | (simp only [List.length_drop, List.length_take]; rfl)) ?_; (with_reducible refine (redressref03_Arity.calls k a0_0 t178 _ A2.out).mono ?_); rintro e w' ⟨rfl, ⟨nd, rfl⟩⟩; refine ⟨_, rfl, ?_⟩))
            go_ret
            exact ⟨by first | rfl | (simp [errW_none, errW_some] <;> rfl) | (simp [*, errW_none, errW_some] <;> rfl), by repeat (first | (with_reducible first | exact HB.out | apply below_alloc | apply pw_below_drewN | apply below_drew1 | refine below_set ?_ GE177.out) | exact HB.out)⟩
        · rw [if_neg c35] at H
          have c35b0 : (a0_0 == 14) = false := beq_eq_false_iff_ne.mpr c35
          have c35b1 : (a0_0 != 14) = true := bne_iff_ne.mpr c35
          by_cases c44 : a0_1.toList = ([] : List UInt8)
          · rw [if_pos c44] at H
            have c44b0 : (a0_1.toList == ([] : List UInt8)) = true := beq_iff_eq.mpr c44
            have c44b1 : (a0_1.toList != ([] : List UInt8)) = false := bne_eq_false_iff_eq.mpr c44
            clear c44
            obtain rfl := Option.some.inj H
            go_enter Tryd.func34, Tryd.ntmps34
            go_wp2_with (first | ((with_reducible refine gate_dst (N := 1) rfl ?_); (try (refine gate_guard (by rfl) ?_; dsimp only)); refine box_event ?hg (N := 1) ?hd (cs := #[.int .i64 a0_0, .string a0_1, .int .i64 a0_2]) (t := 48) ?hr ?_; (case hd => rfl); (case hg => rfl); (case hr => first | (go_simp; done) | (go_simp; rfl)); intro gb177 hg w45 hbox hb; have n0_ := Aside0.mk (below_step (by repeat (first | (with_reducible first | exact HB.out | apply below_alloc | apply pw_below_drewN | apply below_drew1) | exact HB.out)) hb); have n1_ := Aside0.mk (hbox); have n2_ := Aside0.mk ((by rw [hg]; exact (below_size (by repeat (first | (with_reducible first | exact HB.out | apply below_alloc | apply pw_below_drewN | apply below_drew1) | exact HB.out))) : w.heap.size ≤ gb177)); have n3_ := Aside0.mk ((by rw [hg]; exact (below_size (by repeat (first | (with_reducible first | exact HB.out | apply below_alloc | apply pw_below_drewN | apply below_drew1) | exact HB.out))) : w.heap.size ≤ gb177)); clear HB; have HB := n0_; have BK177 := n1_; have GW177 := n2_; have GE177 := n3_; clear n0_ n1_ n2_ n3_; clear hb hbox hg; have hcz46_0 : w45.cell? ⟨gb177, 0, none⟩ = some (.int .i64 a0_0) := (blk_cell BK177.out 0).trans rfl; have hcz46_1 : w45.cell? ⟨gb177, 1, none⟩ = some (.string a0_1) := (blk_cell BK177.out 1).trans rfl; have hcz46_2 : w45.cell? ⟨gb177, 2, none⟩ = some (.int .i64 a0_2) := (blk_cell BK177.out 2).trans rfl; have hfz46_0 := blk_frozen BK177.out 0; have hfz46_1 := blk_frozen BK177.out 1; have hfz46_2 := blk_frozen BK177.out 2) | ((with_reducible refine gate_callee (f := 32) rfl ?_); refine goesL_ (some 6) rfl rfl Tryd.func32 (by kernel_rfl) rfl #[.int .i64 a0_0] rfl (by (try simp only [List.map_toArray, List.map_cons, List.map_nil]); first | done | rfl | (simp only [List.length_drop, List.length_take]; rfl)) ?_; (with_reducible refine (redressref03_Arity.calls k a0_0 t178 _ A2.out).mono ?_); rintro e w' ⟨rfl, ⟨nd, rfl⟩⟩; refine ⟨_, rfl, ?_⟩))
            go_ret
            exact ⟨by first | rfl | (simp [errW_none, errW_some] <;> rfl) | (simp [*, errW_none, errW_some] <;> rfl), by repeat (first | (with_reducible first | exact HB.out | apply below_alloc | apply pw_below_drewN | apply below_drew1 | refine below_set ?_ GE177.out) | exact HB.out)⟩
          · rw [if_neg c44] at H
            have c44b0 : (a0_1.toList == ([] : List UInt8)) = false := beq_eq_false_iff_ne.mpr c44
            have c44b1 : (a0_1.toList != ([] : List UInt8)) = true := bne_iff_ne.mpr c44
            obtain rfl := Option.some.inj H
            go_enter Tryd.func34, Tryd.ntmps34
            go_wp2_with (first | ((with_reducible refine gate_dst (N := 1) rfl ?_); (try (refine gate_guard (by rfl) ?_; dsimp only)); refine box_event ?hg (N := 1) ?hd (cs := #[.int .i64 a0_0, .string a0_1, .int .i64 a0_2]) (t := 48) ?hr ?_; (case hd => rfl); (case hg => rfl); (case hr => first | (go_simp; done) | (go_simp; rfl)); intro gb177 hg w47 hbox hb; have n0_ := Aside0.mk (below_step (by repeat (first | (with_reducible first | exact HB.out | apply below_alloc | apply pw_below_drewN | apply below_drew1) | exact HB.out)) hb); have n1_ := Aside0.mk (hbox); have n2_ := Aside0.mk ((by rw [hg]; exact (below_size (by repeat (first | (with_reducible first | exact HB.out | apply below_alloc | apply pw_below_drewN | apply below_drew1) | exact HB.out))) : w.heap.size ≤ gb177)); have n3_ := Aside0.mk ((by rw [hg]; exact (below_size (by repeat (first | (with_reducible first | exact HB.out | apply below_alloc | apply pw_below_drewN | apply below_drew1) | exact HB.out))) : w.heap.size ≤ gb177)); clear HB; have HB := n0_; have BK177 := n1_; have GW177 := n2_; have GE177 := n3_; clear n0_ n1_ n2_ n3_; clear hb hbox hg; have hcz48_0 : w47.cell? ⟨gb177, 0, none⟩ = some (.int .i64 a0_0) := (blk_cell BK177.out 0).trans rfl; have hcz48_1 : w47.cell? ⟨gb177, 1, none⟩ = some (.string a0_1) := (blk_cell BK177.out 1).trans rfl; have hcz48_2 : w47.cell? ⟨gb177, 2, none⟩ = some (.int .i64 a0_2) := (blk_cell BK177.out 2).trans rfl; have hfz48_0 := blk_frozen BK177.out 0; have hfz48_1 := blk_frozen BK177.out 1; have hfz48_2 := blk_frozen BK177.out 2) | ((with_reducible refine gate_callee (f := 32) rfl ?_); refine goesL_ (some 6) rfl rfl Tryd.func32 (by kernel_rfl) rfl #[.int .i64 a0_0] rfl (by (try simp only [List.map_toArray, List.map_cons, List.map_nil]); first | done | rfl | (simp only [List.length_drop, List.length_take]; rfl)) ?_; (with_reducible refine (redressref03_Arity.calls k a0_0 t178 _ A2.out).mono ?_); rintro e w' ⟨rfl, ⟨nd, rfl⟩⟩; refine ⟨_, rfl, ?_⟩))
            go_ret
            exact ⟨by first | rfl | (simp [errW_none, errW_some] <;> rfl) | (simp [*, errW_none, errW_some] <;> rfl), by repeat (first | (with_reducible first | exact HB.out | apply below_alloc | apply pw_below_drewN | apply below_drew1 | refine below_set ?_ GE177.out) | exact HB.out)⟩

end Go.Proofs.YtefiadocljnpjaaDoor.PK

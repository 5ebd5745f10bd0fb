-- Of this seat's own make: written by a program of this session's repo (wip/inject.py) over the kit's printer, with some functions given by hand.
import Derived.Test.YtbjjpckldjjcgaaPKx0
namespace Go.Proofs.Ytbjjpckldjjcgaa.PK
open Go.RowKit Go.Proofs.YtbjjpckldjjcgaaW.PrintWords Go.Proofs.YtbjjpckldjjcgaaW.PrintLast Go.Proofs.YtbjjpckldjjcgaaW.PrintMore
attribute [local go_sem] max2_int min2_int max_two min_two max_three min_three max_four min_four   -- for this text's walks alone
set_option linter.unusedVariables false
set_option linter.unusedSimpArgs false

/-! ### redressref17_Write: function 49 -/
mutual
def redressref17_Write.j0 : Nat → Int → List Int → Bool → List Int → Int → Int → Option (List Int × Int × Int × Int)
  | 0, _, _, _, _, _, _ => none
  | k + 1, x1, x2, x24, x185000, x185001, x185002 => if x24 = true then (some (x185000, x185001, x185002, 1)) else (if x185002 = 0 then (some (x185000, x185001, x185002, 170)) else (if ([] : List Int).length + x185000.length < 140737488355328 then (redressref17_Write.l0 k x1 x2 0 (([] : List Int) ++ x185000) (wrap64 (x185001 + 1)) x185002) else (none)))
def redressref17_Write.l0 : Nat → Int → List Int → Int → List Int → Int → Int → Option (List Int × Int × Int × Int)
  | 0, _, _, _, _, _, _ => none
  | k + 1, x1, x2, x9, x187000, x187001, x187002 => if x9 < 16 then (if 0 ≤ (wrap64 ((wrap64 (16 * x1)) + x9)) then (if (wrap64 ((wrap64 (16 * x1)) + x9)) < (x187000.length : Int) then ((some (x187000.set ((wrap64 ((wrap64 (16 * x1)) + x9)) : Int).toNat 0 : List Int)).bind fun y190 => (if x9 < (x2.length : Int) then (if 0 ≤ x9 then (redressref17_Write.l0 k x1 x2 (wrap64 (x9 + 1)) (y190.set ((wrap64 ((wrap64 (16 * x1)) + x9)) : Int).toNat (rd x2 x9)) x187001 x187002) else (none)) else (redressref17_Write.l0 k x1 x2 (wrap64 (x9 + 1)) y190 x187001 x187002))) else (none)) else (none)) else (if x187002 > 0 then (some (x187000, x187001, wrap64 (x187002 - 1), 0)) else (some (x187000, x187001, x187002, 0)))
end
def redressref17_Write.f (k : Nat) (l0_0 : List Int) (a0_1 : Int) (a0_2 : Int) (a1 : Int) (l2 : List Int) : Option (List Int × Int × Int × Int) := if a1 < 0 then (redressref17_Write.j0 k a1 l2 true l0_0 a0_1 a0_2) else (if a1 ≥ (wrap64 ((l0_0.length : Int) / 16)) then (redressref17_Write.j0 k a1 l2 true l0_0 a0_1 a0_2) else (redressref17_Write.j0 k a1 l2 (decide ((l2.length : Int) > 16)) l0_0 a0_1 a0_2))
theorem redressref17_Write.mono_l : ∀ k, (∀ y0 y1 y2 y3 y4 y5, LeO (redressref17_Write.j0 k y0 y1 y2 y3 y4 y5) (redressref17_Write.j0 (k + 1) y0 y1 y2 y3 y4 y5)) ∧ (∀ y0 y1 y2 y3 y4 y5, LeO (redressref17_Write.l0 k y0 y1 y2 y3 y4 y5) (redressref17_Write.l0 (k + 1) y0 y1 y2 y3 y4 y5))
  | 0 => ⟨fun _ _ _ _ _ _ r h => by simp [redressref17_Write.j0] at h, fun _ _ _ _ _ _ r h => by simp [redressref17_Write.l0] at h⟩
  | k + 1 => by
    obtain ⟨ih0, ih1⟩ := redressref17_Write.mono_l k
    refine ⟨?_, ?_⟩
    · intro y0 y1 y2 y3 y4 y5
      unfold redressref17_Write.j0
      repeat' first
      | (with_reducible exact ih0 _ _ _ _ _ _)
      | (with_reducible exact ih1 _ _ _ _ _ _)
      | (with_reducible exact LeO.refl _)
      | (with_reducible exact LeO.none _)
      | (with_reducible refine LeO.ite ?_ ?_)
      | (with_reducible refine LeO.bind ?_ (fun _ => ?_))
      | exact ih0 _ _ _ _ _ _
      | exact ih1 _ _ _ _ _ _
      | exact LeO.none _
      | refine LeO.ite ?_ ?_
      | refine LeO.bind ?_ (fun _ => ?_)
    · intro y0 y1 y2 y3 y4 y5
      unfold redressref17_Write.l0
      repeat' first
      | (with_reducible exact ih0 _ _ _ _ _ _)
      | (with_reducible exact ih1 _ _ _ _ _ _)
      | (with_reducible exact LeO.refl _)
      | (with_reducible exact LeO.none _)
      | (with_reducible refine LeO.ite ?_ ?_)
      | (with_reducible refine LeO.bind ?_ (fun _ => ?_))
      | exact ih0 _ _ _ _ _ _
      | exact ih1 _ _ _ _ _ _
      | exact LeO.none _
      | refine LeO.ite ?_ ?_
      | refine LeO.bind ?_ (fun _ => ?_)
theorem redressref17_Write.mono : ∀ a0 a1 a2 a3 a4 k, LeO (redressref17_Write.f k a0 a1 a2 a3 a4) (redressref17_Write.f (k + 1) a0 a1 a2 a3 a4) := by
  intro a0 a1 a2 a3 a4 k
  obtain ⟨ih0, ih1⟩ := redressref17_Write.mono_l k
  unfold redressref17_Write.f
  repeat' first
      | (with_reducible exact ih0 _ _ _ _ _ _)
      | (with_reducible exact ih1 _ _ _ _ _ _)
      | (with_reducible exact LeO.refl _)
      | (with_reducible exact LeO.none _)
      | (with_reducible refine LeO.ite ?_ ?_)
      | (with_reducible refine LeO.bind ?_ (fun _ => ?_))
      | exact ih0 _ _ _ _ _ _
      | exact ih1 _ _ _ _ _ _
      | exact LeO.none _
      | refine LeO.ite ?_ ?_
      | refine LeO.bind ?_ (fun _ => ?_)
def redressref17_Write.T12 : Bool × List (List Nat × List Nat) := (true, [([], []), ([0], [0]), ([], []), ([2], [2]), ([], []), ([3, 4], [3, 4]), ([], []), ([], []), ([6, 7], [6, 7]), ([8], [8]), ([1, 5, 0, 1, 2, 3, 4, 5, 6, 7, 8, 9], [1, 5]), ([10, 9, 0, 1, 2, 3, 4, 5, 6, 7, 8, 9], [9, 10])])
def redressref17_Write.B12 : List Nat := [0, 1, 0, 4, 0, 28, 0, 0, 192, 448, 1023, 2047]
theorem redressref17_Write.tab12 : rtab .any (opsOf Try.f49 12) = redressref17_Write.T12 := by kernel_rfl
theorem redressref17_Write.bits12 : waitsOk redressref17_Write.T12.2 redressref17_Write.B12 = true := by kernel_rfl
set_option maxHeartbeats 8000000 in
set_option maxRecDepth 100000 in
theorem redressref17_Write.calls (k : Nat) (P0_0_ : Nat → Prop) (u9000_ : Value) (l0_0 : List Int) (a0_1 : Int) (a0_2 : Int) (a1 : Int) (A2 : Option Addr) (c2 : Nat) (l2 : List Int) (r1 : List Int) (r2 : Int) (r3 : Int) (r4 : Int) (w0 w : World) (hB : Below w0.heap.size w0 w) (ho0_0 : Kd.R (Kd.int .u8) 5 w w0.heap.size P0_0_ u9000_ l0_0) (hr2 : ∀ W_, Kept w W_ (fun k_ => P0_0_ k_) → Kd.C (Kd.int .u8) W_ A2 l2.length l2) (hc2 : l2.length ≤ c2) (h : redressref17_Write.f k l0_0 a0_1 a0_2 a1 l2 = some (r1, r2, r3, r4)) :
    Calls Try.prog 49 #[.agg #[u9000_, .int .i64 a0_1, .int .i64 a0_2], .int .i64 a1, .slice A2 l2.length c2] w fun e w' => ∃ v0_ : Value, e = .returned (.tuple #[.agg #[v0_, .int .i64 r2, .int .i64 r3], .int .i64 r4]) ∧ Kd.R (Kd.int .u8) 5 w' w0.heap.size (fun k_ => (P0_0_ k_ ∨ w.heap.size ≤ k_)) v0_ r1 ∧ Below w0.heap.size w0 w' ∧ Kept w w' (fun k_ => P0_0_ k_) := by
  have hu44 := Try.underlying44
  have HO0_0 := Aside0.mk (show Kd.R (Kd.int .u8) 5 w w0.heap.size (fun k_ => (P0_0_ k_ ∨ w.heap.size ≤ k_)) u9000_ l0_0 from Kd.R_mono ho0_0 (fun k_ hk => (.inl hk)))
  have HR2 := Aside0.mk hr2
  have HC2 := Aside0.mk hc2
  clear hr2 hc2
  have HK := Aside0.mk (Kept.refl w (fun k_ => P0_0_ k_))
  have HW0 := Aside0.mk hB.size
  have HB := Aside0.mk hB
  clear hB
  have H : (if a1 < 0 then (redressref17_Write.j0 k a1 l2 true l0_0 a0_1 a0_2) else (if a1 ≥ (wrap64 ((l0_0.length : Int) / 16)) then (redressref17_Write.j0 k a1 l2 true l0_0 a0_1 a0_2) else (redressref17_Write.j0 k a1 l2 (decide ((l2.length : Int) > 16)) l0_0 a0_1 a0_2))) = some (r1, r2, r3, r4) := h
  clear h
  have HC4 := Aside0.mk H
  clear H
  obtain ⟨Ao5, co5, eo5⟩ := Kd.R_slice HO0_0.out
  subst eo5
  go_enter Try.func49, Try.ntmps49
  go_upto_region 1 with (first | ((with_reducible refine gate_dst (N := 3) rfl ?_); (try (refine gate_guard (by rfl) ?_; dsimp only)); refine box_event ?hg (N := 3) ?hd (cs := #[.slice Ao5 l0_0.length co5, .int .i64 a0_1, .int .i64 a0_2]) (t := 44) ?hr ?_; (case hd => rfl); (case hg => rfl); (case hr => first | (go_simp; done) | (go_simp; rfl)); intro gb184 hg w6 hbox hb; have n0_ := Aside0.mk (Kd.R_below (by (with_reducible repeat (first | apply Kd.R_alloc | apply Kd.R_drewN | apply Kd.R_drew)); exact HO0_0.out) hb); have n1_ := Aside0.mk (Kept.below (S := (fun k_ => P0_0_ k_)) (by repeat (first | (with_reducible first | exact HK.out | apply Kept.alloc | apply Kept.drewN | apply Kept.drew) | exact HK.out)) hb); have n2_ := Aside0.mk (below_step (by repeat (first | (with_reducible first | exact HB.out | apply below_alloc | apply pw_below_drewN | apply below_drew1) | exact HB.out)) hb); have n3_ := Aside0.mk (hbox); have n4_ := Aside0.mk ((by rw [hg]; exact (by first | exact HK.out.1 | exact (show Kept w _ (fun k_ => P0_0_ k_) from by repeat (first | (with_reducible first | exact HK.out | apply Kept.alloc | apply Kept.drewN | apply Kept.drew) | exact HK.out)).1) : w.heap.size ≤ gb184)); have n5_ := Aside0.mk ((by rw [hg]; exact (below_size (by repeat (first | (with_reducible first | exact HB.out | apply below_alloc | apply pw_below_drewN | apply below_drew1) | exact HB.out))) : w0.heap.size ≤ gb184)); clear HO0_0; clear HK; clear HB; have HO0_0 := n0_; have HK := n1_; have HB := n2_; have BK184 := n3_; have GW184 := n4_; have GE184 := n5_; clear n0_ n1_ n2_ n3_ n4_ n5_; clear hb hbox hg) | ((with_reducible refine gate_dst (N := 6) rfl ?_); (try (refine gate_guard (by rfl) ?_; dsimp only)); refine box_event ?hg (N := 6) ?hd (cs := #[.slice none 0 0, .int .i64 0, .int .i64 0]) (t := 44) ?hr ?_; (case hd => rfl); (case hg => rfl); (case hr => first | (go_simp; done) | (go_simp; rfl)); intro gb185 hg w7 hbox hb; have n0_ := Aside0.mk (Kd.R_below (by (with_reducible repeat (first | apply Kd.R_alloc | apply Kd.R_drewN | apply Kd.R_drew)); exact HO0_0.out) hb); have n1_ := Aside0.mk (blk_below (g := gb184) (o := .cells #[.slice Ao5 l0_0.length co5, .int .i64 a0_1, .int .i64 a0_2] 44 (0, 0)) (by (with_reducible repeat (first | refine blk_drewN ?_ _ | refine blk_drew ?_ | refine blk_alloc ?_ _)); exact BK184.out) hb); have n2_ := Aside0.mk (Kept.below (S := (fun k_ => P0_0_ k_)) (by repeat (first | (with_reducible first | exact HK.out | apply Kept.alloc | apply Kept.drewN | apply Kept.drew | refine Kept.setCell ?_ (.inr GW184.out) _) | exact HK.out)) hb); have n3_ := Aside0.mk (below_step (by repeat (first | (with_reducible first | exact HB.out | apply below_alloc | apply pw_below_drewN | apply below_drew1 | refine below_set ?_ GE184.out) | exact HB.out)) hb); have n4_ := Aside0.mk (hbox); have n5_ := Aside0.mk ((by rw [hg]; exact (by first | exact HK.out.1 | exact (show Kept w _ (fun k_ => P0_0_ k_) from by repeat (first | (with_reducible first | exact HK.out | apply Kept.alloc | apply Kept.drewN | apply Kept.drew | refine Kept.setCell ?_ (.inr GW184.out) _) | exact HK.out)).1) : w.heap.size ≤ gb185)); have n6_ := Aside0.mk ((by rw [hg]; exact (below_size (by repeat (first | (with_reducible first | exact HB.out | apply below_alloc | apply pw_below_drewN | apply below_drew1 | refine below_set ?_ GE184.out) | exact HB.out))) : w0.heap.size ≤ gb185)); have n7_ := Aside0.mk ((by rw [hg]; exact Nat.ne_of_lt (blk_lt (g := gb184) (o := .cells #[.slice Ao5 l0_0.length co5, .int .i64 a0_1, .int .i64 a0_2] 44 (0, 0)) (by (with_reducible repeat (first | refine blk_drewN ?_ _ | refine blk_drew ?_ | refine blk_alloc ?_ _)); exact BK184.out)) : gb184 ≠ gb185)); have n8_ := Aside0.mk ((by rw [hg]; exact Nat.ne_of_gt (blk_lt (g := gb184) (o := .cells #[.slice Ao5 l0_0.length co5, .int .i64 a0_1, .int .i64 a0_2] 44 (0, 0)) (by (with_reducible repeat (first | refine blk_drewN ?_ _ | refine blk_drew ?_ | refine blk_alloc ?_ _)); exact BK184.out)) : gb185 ≠ gb184)); clear HO0_0; clear BK184; clear HK; clear HB; have HO0_0 := n0_; have BK184 := n1_; have HK := n2_; have HB := n3_; have BK185 := n4_; have GW185 := n5_; have GE185 := n6_; have NB184_185 := n7_; have NB185_184 := n8_; clear n0_ n1_ n2_ n3_ n4_ n5_ n6_ n7_ n8_; clear hb hbox hg))
  (try simp only [Act.put, List.setIfInBounds_toArray, List.set_cons_zero, List.set_cons_succ])
  go_cut [24] (fun v24 wc => ∃ (kq : Nat) (x24_3 : Bool), v24 = .bool x24_3 ∧ Aside0 (redressref17_Write.j0 kq a1 l2 x24_3 l0_0 a0_1 a0_2 = some (r1, r2, r3, r4)) ∧ Aside0 (kq ≤ k) ∧ Aside0 (Kd.R (Kd.int .u8) 5 wc w0.heap.size (fun k_ => (P0_0_ k_ ∨ w.heap.size ≤ k_)) (.slice Ao5 l0_0.length co5) l0_0) ∧ Aside0 (wc.heap[gb184]? = some (.cells #[(.slice Ao5 l0_0.length co5), .int .i64 a0_1, .int .i64 a0_2] 44 (0, 0))) ∧ Aside0 (wc.heap[gb185]? = some (.cells #[(.slice none 0 0), .int .i64 0, .int .i64 0] 44 (0, 0))) ∧ Aside0 (Kept w wc (fun k_ => P0_0_ k_)) ∧ Aside0 (Below w0.heap.size w0 wc))
  case first =>
    have H := HC4.out
    clear HC4
    by_cases c8 : a1 < 0
    · rw [if_pos c8] at H
      have c8b0 : decide (a1 < 0) = true := decide_eq_true c8
      clear c8
      (first | rw [c8b0] | (simp only [i64_w, i32_w]; rw [c8b0]) | skip)
      have H' := Aside0.mk H
      clear H
      go_wp2
      go_meet
      case rel => exact ⟨_, (true), (by first | rfl | (simp; done) | (simp [*]; done)), H', ⟨by first | omega | exact Nat.le_refl _⟩, ⟨by (with_reducible repeat (first | apply Kd.R_alloc | apply Kd.R_drewN | apply Kd.R_drew)); exact HO0_0.out⟩, ⟨by (with_reducible repeat (first | refine blk_drewN ?_ _ | refine blk_drew ?_ | refine blk_alloc ?_ _)); exact BK184.out⟩, ⟨by (with_reducible repeat (first | refine blk_drewN ?_ _ | refine blk_drew ?_ | refine blk_alloc ?_ _)); exact BK185.out⟩, ⟨by repeat (first | (with_reducible first | exact HK.out | apply Kept.alloc | apply Kept.drewN | apply Kept.drew | refine Kept.setCell ?_ (.inr GW184.out) _ | refine Kept.setCell ?_ (.inr GW185.out) _) | exact HK.out)⟩, ⟨by repeat (first | (with_reducible first | exact HB.out | apply below_alloc | apply pw_below_drewN | apply below_drew1 | refine below_set ?_ GE184.out | refine below_set ?_ GE185.out) | exact HB.out)⟩⟩
    · rw [if_neg c8] at H
      have c8b0 : decide (a1 < 0) = false := decide_eq_false c8
      clear c8
      (first | rw [c8b0] | (simp only [i64_w, i32_w]; rw [c8b0]) | skip)
      by_cases c9 : a1 ≥ (wrap64 ((l0_0.length : Int) / 16))
      · rw [if_pos c9] at H
        have c9b0 : decide ((wrap64 ((l0_0.length : Int) / 16)) ≤ a1) = true := decide_eq_true c9
        clear c9
        have H' := Aside0.mk H
        clear H
        have hnb10 := NB184_185.out
        have hnc10 := NB185_184.out
        have hcz11_0 : w7.cell? ⟨gb184, 0, none⟩ = some (.slice Ao5 l0_0.length co5) := (blk_cell BK184.out 0).trans rfl
        have hcz11_1 : w7.cell? ⟨gb184, 1, none⟩ = some (.int .i64 a0_1) := (blk_cell BK184.out 1).trans rfl
        have hcz11_2 : w7.cell? ⟨gb184, 2, none⟩ = some (.int .i64 a0_2) := (blk_cell BK184.out 2).trans rfl
        have hfz11_0 := blk_frozen BK184.out 0
        have hfz11_1 := blk_frozen BK184.out 1
        have hfz11_2 := blk_frozen BK184.out 2
        go_wp2
        go_meet
        case rel => exact ⟨_, (true), (by first | rfl | (simp; done) | (simp [*]; done)), H', ⟨by first | omega | exact Nat.le_refl _⟩, ⟨by (with_reducible repeat (first | apply Kd.R_alloc | apply Kd.R_drewN | apply Kd.R_drew)); exact HO0_0.out⟩, ⟨by (with_reducible repeat (first | refine blk_drewN ?_ _ | refine blk_drew ?_ | refine blk_alloc ?_ _)); exact BK184.out⟩, ⟨by (with_reducible repeat (first | refine blk_drewN ?_ _ | refine blk_drew ?_ | refine blk_alloc ?_ _)); exact BK185.out⟩, ⟨by repeat (first | (with_reducible first | exact HK.out | apply Kept.alloc | apply Kept.drewN | apply Kept.drew | refine Kept.setCell ?_ (.inr GW184.out) _ | refine Kept.setCell ?_ (.inr GW185.out) _) | exact HK.out)⟩, ⟨by repeat (first | (with_reducible first | exact HB.out | apply below_alloc | apply pw_below_drewN | apply below_drew1 | refine below_set ?_ GE184.out | refine below_set ?_ GE185.out) | exact HB.out)⟩⟩
      · rw [if_neg c9] at H
        have c9b0 : decide ((wrap64 ((l0_0.length : Int) / 16)) ≤ a1) = false := decide_eq_false c9
        clear c9
        have H' := Aside0.mk H
        clear H
        have hnb12 := NB184_185.out
        have hnc12 := NB185_184.out
        have hcz13_0 : w7.cell? ⟨gb184, 0, none⟩ = some (.slice Ao5 l0_0.length co5) := (blk_cell BK184.out 0).trans rfl
        have hcz13_1 : w7.cell? ⟨gb184, 1, none⟩ = some (.int .i64 a0_1) := (blk_cell BK184.out 1).trans rfl
        have hcz13_2 : w7.cell? ⟨gb184, 2, none⟩ = some (.int .i64 a0_2) := (blk_cell BK184.out 2).trans rfl
        have hfz13_0 := blk_frozen BK184.out 0
        have hfz13_1 := blk_frozen BK184.out 1
        have hfz13_2 := blk_frozen BK184.out 2
        go_wp2
        go_meet
        case rel => exact ⟨_, (decide ((l2.length : Int) > 16)), (by first | rfl | (simp; done) | (simp [*]; done)), H', ⟨by first | omega | exact Nat.le_refl _⟩, ⟨by (with_reducible repeat (first | apply Kd.R_alloc | apply Kd.R_drewN | apply Kd.R_drew)); exact HO0_0.out⟩, ⟨by (with_reducible repeat (first | refine blk_drewN ?_ _ | refine blk_drew ?_ | refine blk_alloc ?_ _)); exact BK184.out⟩, ⟨by (with_reducible repeat (first | refine blk_drewN ?_ _ | refine blk_drew ?_ | refine blk_alloc ?_ _)); exact BK185.out⟩, ⟨by repeat (first | (with_reducible first | exact HK.out | apply Kept.alloc | apply Kept.drewN | apply Kept.drew | refine Kept.setCell ?_ (.inr GW184.out) _ | refine Kept.setCell ?_ (.inr GW185.out) _) | exact HK.out)⟩, ⟨by repeat (first | (with_reducible first | exact HB.out | apply below_alloc | apply pw_below_drewN | apply below_drew1 | refine below_set ?_ GE184.out | refine below_set ?_ GE185.out) | exact HB.out)⟩⟩
  case rest =>
    clear HC4
    try clear c1
    try clear c2
    try clear p2
    try clear c4
    try clear p6
    try clear c8
    try clear c8b0
    try clear c9
    try clear c9b0
    try clear c10
    try clear c12
    try clear hcz11_0
    try clear hcz11_1
    try clear hcz11_2
    try clear hcz13_0
    try clear hcz13_1
    try clear hcz13_2
    try clear hfz11_0
    try clear hfz11_1
    try clear hfz11_2
    try clear hfz13_0
    try clear hfz13_1
    try clear hfz13_2
    obtain ⟨kq, x24_3, rfl, HA, HJ3, HO_185000, BK184, BK185, HK, HB⟩ := hcut
    cases kq with
    | zero => exact absurd HA.out (by simp [redressref17_Write.j0])
    | succ kj3 =>
      have H := HA.out
      clear HA
      simp only [redressref17_Write.j0] at H
      by_cases c14 : x24_3 = true
      · subst c14
        have H1 : (some (l0_0, a0_1, a0_2, 1)) = some (r1, r2, r3, r4) := by rw [if_pos rfl] at H; exact H
        clear H
        have H := H1
        clear H1
        simp only [Option.some.injEq, Prod.mk.injEq] at H
        obtain ⟨rfl, rfl, rfl, rfl⟩ := H
        have hnb15 := NB184_185.out
        have hnc15 := NB185_184.out
        have hcz16_0 : wc.cell? ⟨gb184, 0, none⟩ = some (.slice Ao5 l0_0.length co5) := (blk_cell BK184.out 0).trans rfl
        have hcz16_1 : wc.cell? ⟨gb184, 1, none⟩ = some (.int .i64 a0_1) := (blk_cell BK184.out 1).trans rfl
        have hcz16_2 : wc.cell? ⟨gb184, 2, none⟩ = some (.int .i64 a0_2) := (blk_cell BK184.out 2).trans rfl
        have hfz16_0 := blk_frozen BK184.out 0
        have hfz16_1 := blk_frozen BK184.out 1
        have hfz16_2 := blk_frozen BK184.out 2
        have hcz17_0 : wc.cell? ⟨gb185, 0, none⟩ = some (.slice none 0 0) := (blk_cell BK185.out 0).trans rfl
        have hcz17_1 : wc.cell? ⟨gb185, 1, none⟩ = some (.int .i64 0) := (blk_cell BK185.out 1).trans rfl
        have hcz17_2 : wc.cell? ⟨gb185, 2, none⟩ = some (.int .i64 0) := (blk_cell BK185.out 2).trans rfl
        have hfz17_0 := blk_frozen BK185.out 0
        have hfz17_1 := blk_frozen BK185.out 1
        have hfz17_2 := blk_frozen BK185.out 2
        go_wp2
        refine bodyPost_ret (results_ct rfl _ _ gb185 44 #[.slice Ao5 l0_0.length co5, .int .i64 a0_1, .int .i64 a0_2] (0, 0) _ rfl (by (with_reducible repeat (first | refine blk_drewN ?_ _ | refine blk_drew ?_ | refine blk_alloc ?_ _)); refine blk_put (cs := #[.slice Ao5 l0_0.length co5, .int .i64 a0_1, .int .i64 0]) ?_ 2 _ rfl; (with_reducible repeat (first | refine blk_drewN ?_ _ | refine blk_drew ?_ | refine blk_alloc ?_ _)); refine blk_put (cs := #[.slice Ao5 l0_0.length co5, .int .i64 0, .int .i64 0]) ?_ 1 _ rfl; (with_reducible repeat (first | refine blk_drewN ?_ _ | refine blk_drew ?_ | refine blk_alloc ?_ _)); refine blk_put (cs := #[.slice none 0 0, .int .i64 0, .int .i64 0]) ?_ 0 _ rfl; (with_reducible repeat (first | refine blk_drewN ?_ _ | refine blk_drew ?_ | refine blk_alloc ?_ _)); exact BK185.out) Try.underlying44 rfl (by kernel_rfl)) rfl ?_
        exact ⟨_, by first | rfl | (simp [errW_none, errW_some] <;> rfl) | (simp [*, errW_none, errW_some] <;> rfl), by (with_reducible repeat (first | apply Kd.R_alloc | apply Kd.R_drewN | apply Kd.R_drew)); exact Kd.R_mono (Kd.R_far (p := ⟨gb185, 2, none⟩) (Kd.R_far (p := ⟨gb185, 1, none⟩) (Kd.R_far (p := ⟨gb185, 0, none⟩) (Kd.R_types HO_185000.out BK185.out (by decide)) (fun _ hk => hk.2) (.slice Ao5 l0_0.length co5)) (fun _ hk => hk.2) (.int .i64 a0_1)) (fun _ hk => hk.2) (.int .i64 a0_2)) (fun _ hk => hk.1), by repeat (first | (with_reducible first | exact HB.out | apply below_alloc | apply pw_below_drewN | apply below_drew1 | refine below_set ?_ GE184.out | refine below_set ?_ GE185.out) | exact HB.out), by repeat (first | (with_reducible first | exact HK.out | apply Kept.alloc | apply Kept.drewN | apply Kept.drew | refine Kept.setCell ?_ (.inr GW184.out) _ | refine Kept.setCell ?_ (.inr GW185.out) _) | exact HK.out)⟩
      · replace c14 := Bool.eq_false_iff.mpr c14
        subst c14
        have H1 : (if a0_2 = 0 then (some (l0_0, a0_1, a0_2, 170)) else (if ([] : List Int).length + l0_0.length < 140737488355328 then (redressref17_Write.l0 kj3 a1 l2 0 (([] : List Int) ++ l0_0) (wrap64 (a0_1 + 1)) a0_2) else (none))) = some (r1, r2, r3, r4) := by rw [if_neg (show ¬ (false = true) by decide)] at H; exact H
        clear H
        have H := H1
        clear H1
        by_cases c18 : a0_2 = 0
        · rw [if_pos c18] at H
          have c18b0 : (a0_2 == 0) = true := beq_iff_eq.mpr c18
          have c18b1 : (a0_2 != 0) = false := bne_eq_false_iff_eq.mpr c18
          clear c18
          simp only [Option.some.injEq, Prod.mk.injEq] at H
          obtain ⟨rfl, rfl, rfl, rfl⟩ := H
          have hnb19 := NB184_185.out
          have hnc19 := NB185_184.out
          have hcz20_0 : wc.cell? ⟨gb184, 0, none⟩ = some (.slice Ao5 l0_0.length co5) := (blk_cell BK184.out 0).trans rfl
          have hcz20_1 : wc.cell? ⟨gb184, 1, none⟩ = some (.int .i64 a0_1) := (blk_cell BK184.out 1).trans rfl
          have hcz20_2 : wc.cell? ⟨gb184, 2, none⟩ = some (.int .i64 a0_2) := (blk_cell BK184.out 2).trans rfl
          have hfz20_0 := blk_frozen BK184.out 0
          have hfz20_1 := blk_frozen BK184.out 1
          have hfz20_2 := blk_frozen BK184.out 2
          have hcz21_0 : wc.cell? ⟨gb185, 0, none⟩ = some (.slice none 0 0) := (blk_cell BK185.out 0).trans rfl
          have hcz21_1 : wc.cell? ⟨gb185, 1, none⟩ = some (.int .i64 0) := (blk_cell BK185.out 1).trans rfl
          have hcz21_2 : wc.cell? ⟨gb185, 2, none⟩ = some (.int .i64 0) := (blk_cell BK185.out 2).trans rfl
          have hfz21_0 := blk_frozen BK185.out 0
          have hfz21_1 := blk_frozen BK185.out 1
          have hfz21_2 := blk_frozen BK185.out 2
          go_wp2
          refine bodyPost_ret (results_ct rfl _ _ gb185 44 #[.slice Ao5 l0_0.length co5, .int .i64 a0_1, .int .i64 a0_2] (0, 0) _ rfl (by (with_reducible repeat (first | refine blk_drewN ?_ _ | refine blk_drew ?_ | refine blk_alloc ?_ _)); refine blk_put (cs := #[.slice Ao5 l0_0.length co5, .int .i64 a0_1, .int .i64 0]) ?_ 2 _ rfl; (with_reducible repeat (first | refine blk_drewN ?_ _ | refine blk_drew ?_ | refine blk_alloc ?_ _)); refine blk_put (cs := #[.slice Ao5 l0_0.length co5, .int .i64 0, .int .i64 0]) ?_ 1 _ rfl; (with_reducible repeat (first | refine blk_drewN ?_ _ | refine blk_drew ?_ | refine blk_alloc ?_ _)); refine blk_put (cs := #[.slice none 0 0, .int .i64 0, .int .i64 0]) ?_ 0 _ rfl; (with_reducible repeat (first | refine blk_drewN ?_ _ | refine blk_drew ?_ | refine blk_alloc ?_ _)); exact BK185.out) Try.underlying44 rfl (by kernel_rfl)) rfl ?_
          exact ⟨_, by first | rfl | (simp [errW_none, errW_some] <;> rfl) | (simp [*, errW_none, errW_some] <;> rfl), by (with_reducible repeat (first | apply Kd.R_alloc | apply Kd.R_drewN | apply Kd.R_drew)); exact Kd.R_mono (Kd.R_far (p := ⟨gb185, 2, none⟩) (Kd.R_far (p := ⟨gb185, 1, none⟩) (Kd.R_far (p := ⟨gb185, 0, none⟩) (Kd.R_types HO_185000.out BK185.out (by decide)) (fun _ hk => hk.2) (.slice Ao5 l0_0.length co5)) (fun _ hk => hk.2) (.int .i64 a0_1)) (fun _ hk => hk.2) (.int .i64 a0_2)) (fun _ hk => hk.1), by repeat (first | (with_reducible first | exact HB.out | apply below_alloc | apply pw_below_drewN | apply below_drew1 | refine below_set ?_ GE184.out | refine below_set ?_ GE185.out) | exact HB.out), by repeat (first | (with_reducible first | exact HK.out | apply Kept.alloc | apply Kept.drewN | apply Kept.drew | refine Kept.setCell ?_ (.inr GW184.out) _ | refine Kept.setCell ?_ (.inr GW185.out) _) | exact HK.out)⟩
        · rw [if_neg c18] at H
          have c18b0 : (a0_2 == 0) = false := beq_eq_false_iff_ne.mpr c18
          have c18b1 : (a0_2 != 0) = true := bne_iff_ne.mpr c18
          by_cases c22 : ([] : List Int).length + l0_0.length < 140737488355328
          · rw [if_pos c22] at H
            have LMc22 := Aside0.mk c22
            clear c22
            obtain ⟨y187, hy187⟩ : ∃ y_ : List Int, y_ = (([] : List Int) ++ l0_0) := ⟨_, rfl⟩
            replace H : (redressref17_Write.l0 kj3 a1 l2 0 y187 (wrap64 (a0_1 + 1)) a0_2) = some (r1, r2, r3, r4) := by first | (rw [hy187]; with_reducible exact H) | (have H2_ := (Option.bind_some _ _).symm.trans H; rw [hy187]; with_reducible exact H2_) | (have H2_ := (Option.bind_some _ _).symm.trans H; with_reducible exact H2_) | with_reducible exact H | (rw [hy187]; exact H) | exact H
            have Ny187 := Aside0.mk hy187
            clear hy187
            have H' := Aside0.mk H
            clear H
            have hnb23 := NB184_185.out
            have hnc23 := NB185_184.out
            have hcz24_0 : wc.cell? ⟨gb184, 0, none⟩ = some (.slice Ao5 l0_0.length co5) := (blk_cell BK184.out 0).trans rfl
            have hcz24_1 : wc.cell? ⟨gb184, 1, none⟩ = some (.int .i64 a0_1) := (blk_cell BK184.out 1).trans rfl
            have hcz24_2 : wc.cell? ⟨gb184, 2, none⟩ = some (.int .i64 a0_2) := (blk_cell BK184.out 2).trans rfl
            have hfz24_0 := blk_frozen BK184.out 0
            have hfz24_1 := blk_frozen BK184.out 1
            have hfz24_2 := blk_frozen BK184.out 2
            go_wp2_with (first | ((with_reducible refine gate_dst (N := 8) rfl ?_); (try (refine gate_guard (by rfl) ?_; dsimp only)); refine box_event ?hg (N := 8) ?hd (cs := #[.slice none 0 0, .int .i64 0, .int .i64 0]) (t := 44) ?hr ?_; (case hd => rfl); (case hg => rfl); (case hr => first | (go_simp; done) | (go_simp; rfl)); intro gb186 hg w25 hbox hb; have n0_ := Aside0.mk (Kd.R_below (by (with_reducible repeat (first | apply Kd.R_alloc | apply Kd.R_drewN | apply Kd.R_drew)); exact HO_185000.out) hb); have n1_ := Aside0.mk (blk_below (g := gb184) (o := .cells #[.slice Ao5 l0_0.length co5, .int .i64 a0_1, .int .i64 a0_2] 44 (0, 0)) (by (with_reducible repeat (first | refine blk_drewN ?_ _ | refine blk_drew ?_ | refine blk_alloc ?_ _)); exact BK184.out) hb); have n2_ := Aside0.mk (blk_below (g := gb185) (o := .cells #[.slice none 0 0, .int .i64 0, .int .i64 0] 44 (0, 0)) (by (with_reducible repeat (first | refine blk_drewN ?_ _ | refine blk_drew ?_ | refine blk_alloc ?_ _)); exact BK185.out) hb); have n3_ := Aside0.mk (Kept.below (S := (fun k_ => P0_0_ k_)) (by repeat (first | (with_reducible first | exact HK.out | apply Kept.alloc | apply Kept.drewN | apply Kept.drew | refine Kept.setCell ?_ (.inr GW184.out) _ | refine Kept.setCell ?_ (.inr GW185.out) _) | exact HK.out)) hb); have n4_ := Aside0.mk (below_step (by repeat (first | (with_reducible first | exact HB.out | apply below_alloc | apply pw_below_drewN | apply below_drew1 | refine below_set ?_ GE184.out | refine below_set ?_ GE185.out) | exact HB.out)) hb); have n5_ := Aside0.mk (hbox); have n6_ := Aside0.mk ((by rw [hg]; exact (by first | exact HK.out.1 | exact (show Kept w _ (fun k_ => P0_0_ k_) from by repeat (first | (with_reducible first | exact HK.out | apply Kept.alloc | apply Kept.drewN | apply Kept.drew | refine Kept.setCell ?_ (.inr GW184.out) _ | refine Kept.setCell ?_ (.inr GW185.out) _) | exact HK.out)).1) : w.heap.size ≤ gb186)); have n7_ := Aside0.mk ((by rw [hg]; exact (below_size (by repeat (first | (with_reducible first | exact HB.out | apply below_alloc | apply pw_below_drewN | apply below_drew1 | refine below_set ?_ GE184.out | refine below_set ?_ GE185.out) | exact HB.out))) : w0.heap.size ≤ gb186)); have n8_ := Aside0.mk ((by rw [hg]; exact Nat.ne_of_lt (blk_lt (g := gb184) (o := .cells #[.slice Ao5 l0_0.length co5, .int .i64 a0_1, .int .i64 a0_2] 44 (0, 0)) (by (with_reducible repeat (first | refine blk_drewN ?_ _ | refine blk_drew ?_ | refine blk_alloc ?_ _)); exact BK184.out)) : gb184 ≠ gb186)); have n9_ := Aside0.mk ((by rw [hg]; exact Nat.ne_of_gt (blk_lt (g := gb184) (o := .cells #[.slice Ao5 l0_0.length co5, .int .i64 a0_1, .int .i64 a0_2] 44 (0, 0)) (by (with_reducible repeat (first | refine blk_drewN ?_ _ | refine blk_drew ?_ | refine blk_alloc ?_ _)); exact BK184.out)) : gb186 ≠ gb184)); have n10_ := Aside0.mk ((by rw [hg]; exact Nat.ne_of_lt (blk_lt (g := gb185) (o := .cells #[.slice none 0 0, .int .i64 0, .int .i64 0] 44 (0, 0)) (by (with_reducible repeat (first | refine blk_drewN ?_ _ | refine blk_drew ?_ | refine blk_alloc ?_ _)); exact BK185.out)) : gb185 ≠ gb186)); have n11_ := Aside0.mk ((by rw [hg]; exact Nat.ne_of_gt (blk_lt (g := gb185) (o := .cells #[.slice none 0 0, .int .i64 0, .int .i64 0] 44 (0, 0)) (by (with_reducible repeat (first | refine blk_drewN ?_ _ | refine blk_drew ?_ | refine blk_alloc ?_ _)); exact BK185.out)) : gb186 ≠ gb185)); clear HO_185000; clear BK184; clear BK185; clear HK; clear HB; have HO_185000 := n0_; have BK184 := n1_; have BK185 := n2_; have HK := n3_; have HB := n4_; have BK186 := n5_; have GW186 := n6_; have GE186 := n7_; have NB184_186 := n8_; have NB186_184 := n9_; have NB185_186 := n10_; have NB186_185 := n11_; clear n0_ n1_ n2_ n3_ n4_ n5_ n6_ n7_ n8_ n9_ n10_ n11_; clear hb hbox hg; have hnb26 := NB186_184.out; have hnc26 := NB184_186.out; have hnb27 := NB186_185.out; have hnc27 := NB185_186.out; have hcz28_0 : w25.cell? ⟨gb186, 0, none⟩ = some (.slice none 0 0) := (blk_cell BK186.out 0).trans rfl; have hcz28_1 : w25.cell? ⟨gb186, 1, none⟩ = some (.int .i64 0) := (blk_cell BK186.out 1).trans rfl; have hcz28_2 : w25.cell? ⟨gb186, 2, none⟩ = some (.int .i64 0) := (blk_cell BK186.out 2).trans rfl; have hfz28_0 := blk_frozen BK186.out 0; have hfz28_1 := blk_frozen BK186.out 1; have hfz28_2 := blk_frozen BK186.out 2; have hcz29_0 : w25.cell? ⟨gb184, 0, none⟩ = some (.slice Ao5 l0_0.length co5) := (blk_cell BK184.out 0).trans rfl; have hcz29_1 : w25.cell? ⟨gb184, 1, none⟩ = some (.int .i64 a0_1) := (blk_cell BK184.out 1).trans rfl; have hcz29_2 : w25.cell? ⟨gb184, 2, none⟩ = some (.int .i64 a0_2) := (blk_cell BK184.out 2).trans rfl; have hfz29_0 := blk_frozen BK184.out 0; have hfz29_1 := blk_frozen BK184.out 1; have hfz29_2 := blk_frozen BK184.out 2) | ((with_reducible refine gate_builtin (b := .append) (xs := #[.tmp 37, .tmp 39]) rfl ?_); (try (refine gate_guard (by rfl) ?_; dsimp only)); at_builtin; refine Kd.R_append_rows (Kd.int .u8) (w0 := w0) w0.heap.size rfl (.tmp 37) (.tmp 39) 32 5 (.int .u8 0) 1 rfl Try.underlying32 info5 rfl (by decide) (by omega) (.slice none 0 0) ([] : List Int) l0_0 _ _ _ (fun k_ => (P0_0_ k_ ∨ w.heap.size ≤ k_) ∧ some k_ ≠ (.slice Ao5 l0_0.length co5 : Value).ownBlock) (fun _ => False) rfl rfl ?aO ?aR (fun _ _ h => h) (fun _ h => h.elim) ?aF ?aB ?aS ?aL ?_; (case aR => refine (Kd.R_reads' (e := 5) (base := w0.heap.size) (ok := fun k_ => (P0_0_ k_ ∨ w.heap.size ≤ k_)) (n := l0_0.length) (c := co5) ?_).2.2; exact (by (with_reducible repeat (first | apply Kd.R_alloc | apply Kd.R_drewN | apply Kd.R_drew)); exact (Kd.R_mono (Kd.R_far (p := ⟨gb186, 2, none⟩) (Kd.R_far (p := ⟨gb186, 1, none⟩) (Kd.R_far (p := ⟨gb186, 0, none⟩) (Kd.R_types HO_185000.out BK186.out (by decide)) (fun _ hk => hk.2) (.slice none 0 0)) (fun _ hk => hk.2) (.int .i64 (wrap64 (a0_1 + 1)))) (fun _ hk => hk.2) (.int .i64 a0_2)) (fun _ h_ => h_.1)))); (case aB => exact (by repeat (first | (with_reducible first | exact HB.out | apply below_alloc | apply pw_below_drewN | apply below_drew1 | refine below_set ?_ GE184.out | refine below_set ?_ GE185.out | refine below_set ?_ GE186.out) | exact HB.out))); (case aF => exact (fun k_ hk => ⟨(.inr (Nat.le_trans (show Kept w _ (fun k_ => P0_0_ k_) from by repeat (first | (with_reducible first | exact HK.out | apply Kept.alloc | apply Kept.drewN | apply Kept.drew | refine Kept.setCell ?_ (.inr GW184.out) _ | refine Kept.setCell ?_ (.inr GW185.out) _ | refine Kept.setCell ?_ (.inr GW186.out) _) | exact HK.out)).1 hk)), Kd.fresh' (Kd.R_lt (by (with_reducible repeat (first | apply Kd.R_alloc | apply Kd.R_drewN | apply Kd.R_drew)); exact (Kd.R_mono (Kd.R_far (p := ⟨gb186, 2, none⟩) (Kd.R_far (p := ⟨gb186, 1, none⟩) (Kd.R_far (p := ⟨gb186, 0, none⟩) (Kd.R_types HO_185000.out BK186.out (by decide)) (fun _ hk => hk.2) (.slice none 0 0)) (fun _ hk => hk.2) (.int .i64 (wrap64 (a0_1 + 1)))) (fun _ hk => hk.2) (.int .i64 a0_2)) (fun _ h_ => h_.1)))) k_ hk⟩)); (case aO => exact ((Kd.R_nil _ _ _ _ (fun k_ => (P0_0_ k_ ∨ w.heap.size ≤ k_) ∧ some k_ ≠ (.slice Ao5 l0_0.length co5 : Value).ownBlock)))); (case aS => exact (below_size (by repeat (first | (with_reducible first | exact HB.out | apply below_alloc | apply pw_below_drewN | apply below_drew1 | refine below_set ?_ GE184.out | refine below_set ?_ GE185.out | refine below_set ?_ GE186.out) | exact HB.out)))); (case aL => have := LMc22.out; omega); intro v188 w30 ho hb hg hat; rw [← Ny187.out] at ho; have n0_ := Aside0.mk (Kd.R_after (Kd.R_apart_nil (by (with_reducible repeat (first | apply Kd.R_alloc | apply Kd.R_drewN | apply Kd.R_drew)); exact (Kd.R_mono (Kd.R_far (p := ⟨gb186, 2, none⟩) (Kd.R_far (p := ⟨gb186, 1, none⟩) (Kd.R_far (p := ⟨gb186, 0, none⟩) (Kd.R_types HO_185000.out BK186.out (by decide)) (fun _ hk => hk.2) (.slice none 0 0)) (fun _ hk => hk.2) (.int .i64 (wrap64 (a0_1 + 1)))) (fun _ hk => hk.2) (.int .i64 a0_2)) (fun _ h_ => h_.1)))) hg hat); have n1_ := Aside0.mk (blk_grown (g := gb184) (o := .cells #[.slice Ao5 l0_0.length co5, .int .i64 a0_1, .int .i64 a0_2] 44 (0, 0)) (by (with_reducible repeat (first | refine blk_drewN ?_ _ | refine blk_drew ?_ | refine blk_alloc ?_ _)); refine blk_far ?_ NB184_186.out _; (with_reducible repeat (first | refine blk_drewN ?_ _ | refine blk_drew ?_ | refine blk_alloc ?_ _)); refine blk_far ?_ NB184_186.out _; (with_reducible repeat (first | refine blk_drewN ?_ _ | refine blk_drew ?_ | refine blk_alloc ?_ _)); refine blk_far ?_ NB184_186.out _; (with_reducible repeat (first | refine blk_drewN ?_ _ | refine blk_drew ?_ | refine blk_alloc ?_ _)); exact BK184.out) hg (by simp [Value.ownBlock])); have n2_ := Aside0.mk (blk_grown (g := gb185) (o := .cells #[.slice none 0 0, .int .i64 0, .int .i64 0] 44 (0, 0)) (by (with_reducible repeat (first | refine blk_drewN ?_ _ | refine blk_drew ?_ | refine blk_alloc ?_ _)); refine blk_far ?_ NB185_186.out _; (with_reducible repeat (first | refine blk_drewN ?_ _ | refine blk_drew ?_ | refine blk_alloc ?_ _)); refine blk_far ?_ NB185_186.out _; (with_reducible repeat (first | refine blk_drewN ?_ _ | refine blk_drew ?_ | refine blk_alloc ?_ _)); refine blk_far ?_ NB185_186.out _; (with_reducible repeat (first | refine blk_drewN ?_ _ | refine blk_drew ?_ | refine blk_alloc ?_ _)); exact BK185.out) hg (by simp [Value.ownBlock])); have n3_ := Aside0.mk (blk_grown (g := gb186) (o := .cells #[.slice none 0 0, .int .i64 (wrap64 (a0_1 + 1)), .int .i64 a0_2] 44 (0, 0)) (by (with_reducible repeat (first | refine blk_drewN ?_ _ | refine blk_drew ?_ | refine blk_alloc ?_ _)); refine blk_put (cs := #[.slice none 0 0, .int .i64 (wrap64 (a0_1 + 1)), .int .i64 0]) ?_ 2 _ rfl; (with_reducible repeat (first | refine blk_drewN ?_ _ | refine blk_drew ?_ | refine blk_alloc ?_ _)); refine blk_put (cs := #[.slice none 0 0, .int .i64 0, .int .i64 0]) ?_ 1 _ rfl; (with_reducible repeat (first | refine blk_drewN ?_ _ | refine blk_drew ?_ | refine blk_alloc ?_ _)); refine blk_put (cs := #[.slice none 0 0, .int .i64 0, .int .i64 0]) ?_ 0 _ rfl; (with_reducible repeat (first | refine blk_drewN ?_ _ | refine blk_drew ?_ | refine blk_alloc ?_ _)); exact BK186.out) hg (by simp [Value.ownBlock])); have n4_ := Aside0.mk (hb); have n5_ := Aside0.mk (Kept.of_grown (S := (fun k_ => P0_0_ k_)) hg (by repeat (first | (with_reducible first | exact HK.out | apply Kept.alloc | apply Kept.drewN | apply Kept.drew | refine Kept.setCell ?_ (.inr GW184.out) _ | refine Kept.setCell ?_ (.inr GW185.out) _ | refine Kept.setCell ?_ (.inr GW186.out) _) | exact HK.out)) (fun k_ e_ => by simp [Value.ownBlock] at e_)); have n6_ := Aside0.mk (ho); clear HO_185000; clear BK184; clear BK185; clear BK186; clear HB; clear HK; have HO_185000 := n0_; have BK184 := n1_; have BK185 := n2_; have BK186 := n3_; have HB := n4_; have HK := n5_; have HO189 := n6_; clear n0_ n1_ n2_ n3_ n4_ n5_ n6_; clear ho hb hg hat; obtain ⟨Ao31, co31, eo31⟩ := Kd.R_slice HO189.out; subst eo31; have hcz32_0 : w30.cell? ⟨gb186, 0, none⟩ = some (.slice none 0 0) := (blk_cell BK186.out 0).trans rfl; have hcz32_1 : w30.cell? ⟨gb186, 1, none⟩ = some (.int .i64 (wrap64 (a0_1 + 1))) := (blk_cell BK186.out 1).trans rfl; have hcz32_2 : w30.cell? ⟨gb186, 2, none⟩ = some (.int .i64 a0_2) := (blk_cell BK186.out 2).trans rfl; have hfz32_0 := blk_frozen BK186.out 0; have hfz32_1 := blk_frozen BK186.out 1; have hfz32_2 := blk_frozen BK186.out 2))
            go_loopg [9] kj3 (fun kq v9 w' => ∃ (x9_2 : Int) (x185000_2 : List Int) (x187000_2 : List Int) (u185000 : Value) (u187000 : Value), v9 = .int .i64 x9_2 ∧ Aside0 (redressref17_Write.l0 kq a1 l2 x9_2 x187000_2 (wrap64 (a0_1 + 1)) a0_2 = some (r1, r2, r3, r4)) ∧ Aside0 (kq ≤ kj3) ∧ Aside0 (Kd.R (Kd.int .u8) 5 w' w0.heap.size (fun k_ => (P0_0_ k_ ∨ w.heap.size ≤ k_) ∧ some k_ ≠ (u187000 : Value).ownBlock) u185000 x185000_2) ∧ Aside0 (Kd.R (Kd.int .u8) 5 w' w0.heap.size (fun k_ => (P0_0_ k_ ∨ w.heap.size ≤ k_) ∧ some k_ ≠ (u185000 : Value).ownBlock) u187000 x187000_2) ∧ Aside0 (w'.heap[gb184]? = some (.cells #[u185000, .int .i64 a0_1, .int .i64 a0_2] 44 (0, 0))) ∧ Aside0 (w'.heap[gb185]? = some (.cells #[(.slice none 0 0), .int .i64 0, .int .i64 0] 44 (0, 0))) ∧ Aside0 (w'.heap[gb186]? = some (.cells #[u187000, .int .i64 (wrap64 (a0_1 + 1)), .int .i64 a0_2] 44 (0, 0))) ∧ Aside0 (Kept w w' (fun k_ => P0_0_ k_)) ∧ Aside0 (Below w0.heap.size w0 w'))
            case atStart => exact ⟨(0), (l0_0), (y187), (.slice Ao5 l0_0.length co5), (.slice Ao31 y187.length co31), (by first | rfl | (simp; done) | (simp [*]; done)), H', ⟨Nat.le_refl _⟩, ⟨by (with_reducible repeat (first | apply Kd.R_alloc | apply Kd.R_drewN | apply Kd.R_drew)); exact Kd.R_mono (Kd.R_far (p := ⟨gb186, 0, none⟩) (Kd.R_types HO_185000.out BK186.out (by decide)) (fun _ hk => hk.2) (.slice Ao31 y187.length co31)) (fun _ hk => ⟨hk.1.1, hk.1.2⟩)⟩, ⟨by (with_reducible repeat (first | apply Kd.R_alloc | apply Kd.R_drewN | apply Kd.R_drew)); exact Kd.R_mono (Kd.R_far (p := ⟨gb186, 0, none⟩) (Kd.R_types HO189.out BK186.out (by decide)) (fun _ hk => hk.2) (.slice Ao31 y187.length co31)) (fun _ hk => ⟨hk.1.1, hk.1.2⟩)⟩, ⟨by (with_reducible repeat (first | refine blk_drewN ?_ _ | refine blk_drew ?_ | refine blk_alloc ?_ _)); refine blk_far ?_ NB184_186.out _; (with_reducible repeat (first | refine blk_drewN ?_ _ | refine blk_drew ?_ | refine blk_alloc ?_ _)); exact BK184.out⟩, ⟨by (with_reducible repeat (first | refine blk_drewN ?_ _ | refine blk_drew ?_ | refine blk_alloc ?_ _)); refine blk_far ?_ NB185_186.out _; (with_reducible repeat (first | refine blk_drewN ?_ _ | refine blk_drew ?_ | refine blk_alloc ?_ _)); exact BK185.out⟩, ⟨by (with_reducible repeat (first | refine blk_drewN ?_ _ | refine blk_drew ?_ | refine blk_alloc ?_ _)); refine blk_put (cs := #[.slice none 0 0, .int .i64 (wrap64 (a0_1 + 1)), .int .i64 a0_2]) ?_ 0 _ rfl; (with_reducible repeat (first | refine blk_drewN ?_ _ | refine blk_drew ?_ | refine blk_alloc ?_ _)); exact BK186.out⟩, ⟨by repeat (first | (with_reducible first | exact HK.out | apply Kept.alloc | apply Kept.drewN | apply Kept.drew | refine Kept.setCell ?_ (.inr GW184.out) _ | refine Kept.setCell ?_ (.inr GW185.out) _ | refine Kept.setCell ?_ (.inr GW186.out) _) | exact HK.out)⟩, ⟨by repeat (first | (with_reducible first | exact HB.out | apply below_alloc | apply pw_below_drewN | apply below_drew1 | refine below_set ?_ GE184.out | refine below_set ?_ GE185.out | refine below_set ?_ GE186.out) | exact HB.out)⟩⟩
            case round =>
              clear H'
              try clear c1
              try clear c2
              try clear p2
              try clear c4
              try clear p6
              try clear c8
              try clear c8b0
              try clear c9
              try clear c9b0
              try clear c10
              try clear c12
              try clear c14
              try clear c15
              try clear c18
              try clear c18b0
              try clear c18b1
              try clear c19
              try clear c22
              try clear c23
              try clear c26
              try clear c27
              try clear hcz11_0
              try clear hcz11_1
              try clear hcz11_2
              try clear hcz13_0
              try clear hcz13_1
              try clear hcz13_2
              try clear hcz16_0
              try clear hcz16_1
              try clear hcz16_2
              try clear hcz17_0
              try clear hcz17_1
              try clear hcz17_2
              try clear hcz20_0
              try clear hcz20_1
              try clear hcz20_2
              try clear hcz21_0
              try clear hcz21_1
              try clear hcz21_2
              try clear hcz24_0
              try clear hcz24_1
              try clear hcz24_2
              try clear hcz28_0
              try clear hcz28_1
              try clear hcz28_2
              try clear hcz29_0
              try clear hcz29_1
              try clear hcz29_2
              try clear hcz32_0
              try clear hcz32_1
              try clear hcz32_2
              try clear hfz11_0
              try clear hfz11_1
              try clear hfz11_2
              try clear hfz13_0
              try clear hfz13_1
              try clear hfz13_2
              try clear hfz16_0
              try clear hfz16_1
              try clear hfz16_2
              try clear hfz17_0
              try clear hfz17_1
              try clear hfz17_2
              try clear hfz20_0
              try clear hfz20_1
              try clear hfz20_2
              try clear hfz21_0
              try clear hfz21_1
              try clear hfz21_2
              try clear hfz24_0
              try clear hfz24_1
              try clear hfz24_2
              try clear hfz28_0
              try clear hfz28_1
              try clear hfz28_2
              try clear hfz29_0
              try clear hfz29_1
              try clear hfz29_2
              try clear hfz32_0
              try clear hfz32_1
              try clear hfz32_2
              try clear p2
              try clear p6
              obtain ⟨x9_2, x185000_2, x187000_2, u185000, u187000, rfl, HA, HK2, HO_185000, HO_187000, BK184, BK185, BK186, HK, HB⟩ := hrel
              cases gk with
              | zero => exact absurd HA.out (by simp [redressref17_Write.l0])
              | succ k2 =>
                have H := HA.out
                clear HA
                simp only [redressref17_Write.l0] at H
                by_cases c33 : x9_2 < 16
                · rw [if_pos c33] at H
                  have c33b0 : decide (x9_2 < 16) = true := decide_eq_true c33
                  clear c33
                  obtain ⟨ji34, hji34⟩ : ∃ j_ : Int, (wrap64 ((wrap64 (16 * a1)) + x9_2)) = j_ := ⟨_, rfl⟩
                  replace H : (if 0 ≤ (ji34) then (if (ji34) < (x187000_2.length : Int) then ((some (x187000_2.set ((ji34) : Int).toNat 0 : List Int)).bind fun y190 => (if x9_2 < (l2.length : Int) then (if 0 ≤ x9_2 then (redressref17_Write.l0 k2 a1 l2 (wrap64 (x9_2 + 1)) (y190.set ((ji34) : Int).toNat (rd l2 x9_2)) (wrap64 (a0_1 + 1)) a0_2) else (none)) else (redressref17_Write.l0 k2 a1 l2 (wrap64 (x9_2 + 1)) y190 (wrap64 (a0_1 + 1)) a0_2))) else (none)) else (none)) = some (r1, r2, r3, r4) := by first | (rw [hji34] at H; exact H) | (simp only [hji34] at H ⊢; exact H)
                  have hji34w : (IntKind.i64.wrap ((wrap64 (16 * a1)) + x9_2)) = ji34 := (i64_w _).trans hji34
                  by_cases c35 : 0 ≤ (ji34)
                  · rw [if_pos c35] at H
                    have c35b0 : decide (0 ≤ (ji34)) = true := decide_eq_true c35
                    clear c35
                    by_cases c36 : (ji34) < (x187000_2.length : Int)
                    · rw [if_pos c36] at H
                      have c36b0 : decide ((ji34) < (x187000_2.length : Int)) = true := decide_eq_true c36
                      clear c36
                      obtain ⟨y190, hy190⟩ : ∃ y_ : List Int, y_ = (x187000_2.set ((ji34) : Int).toNat 0) := ⟨_, rfl⟩
                      replace H : (if x9_2 < (l2.length : Int) then (if 0 ≤ x9_2 then (redressref17_Write.l0 k2 a1 l2 (wrap64 (x9_2 + 1)) (y190.set ((ji34) : Int).toNat (rd l2 x9_2)) (wrap64 (a0_1 + 1)) a0_2) else (none)) else (redressref17_Write.l0 k2 a1 l2 (wrap64 (x9_2 + 1)) y190 (wrap64 (a0_1 + 1)) a0_2)) = some (r1, r2, r3, r4) := by first | (rw [hy190]; with_reducible exact H) | (have H2_ := (Option.bind_some _ _).symm.trans H; rw [hy190]; with_reducible exact H2_) | (have H2_ := (Option.bind_some _ _).symm.trans H; with_reducible exact H2_) | with_reducible exact H | (rw [hy190]; exact H) | exact H
                      have Ny190 := Aside0.mk hy190
                      clear hy190
                      by_cases c38 : x9_2 < (l2.length : Int)
                      · rw [if_pos c38] at H
                        have c38b0 : decide (x9_2 < (l2.length : Int)) = true := decide_eq_true c38
                        clear c38
                        by_cases c39 : 0 ≤ x9_2
                        · rw [if_pos c39] at H
                          have c39b0 : decide (0 ≤ x9_2) = true := decide_eq_true c39
                          clear c39
                          obtain ⟨y192, hy192⟩ : ∃ y_ : List Int, y_ = (y190.set ((ji34) : Int).toNat (rd l2 x9_2)) := ⟨_, rfl⟩
                          replace H : (redressref17_Write.l0 k2 a1 l2 (wrap64 (x9_2 + 1)) y192 (wrap64 (a0_1 + 1)) a0_2) = some (r1, r2, r3, r4) := by first | (rw [hy192]; with_reducible exact H) | (have H2_ := (Option.bind_some _ _).symm.trans H; rw [hy192]; with_reducible exact H2_) | (have H2_ := (Option.bind_some _ _).symm.trans H; with_reducible exact H2_) | with_reducible exact H | (rw [hy192]; exact H) | exact H
                          have Ny192 := Aside0.mk hy192
                          clear hy192
                          have H' := Aside0.mk H
                          clear H
                          have hnb41 := NB186_184.out
                          have hnc41 := NB184_186.out
                          have hnb42 := NB186_185.out
                          have hnc42 := NB185_186.out
                          have hcz43_0 : wr.cell? ⟨gb186, 0, none⟩ = some (u187000) := (blk_cell BK186.out 0).trans rfl
                          have hcz43_1 : wr.cell? ⟨gb186, 1, none⟩ = some (.int .i64 (wrap64 (a0_1 + 1))) := (blk_cell BK186.out 1).trans rfl
                          have hcz43_2 : wr.cell? ⟨gb186, 2, none⟩ = some (.int .i64 a0_2) := (blk_cell BK186.out 2).trans rfl
                          have hfz43_0 := blk_frozen BK186.out 0
                          have hfz43_1 := blk_frozen BK186.out 1
                          have hfz43_2 := blk_frozen BK186.out 2
                          have p37 : 0 ≤ ((ji34) : Int) := of_decide_eq_true (by first | (with_reducible assumption) | assumption)
                          have q37 : ((ji34) : Int) < ((x187000_2.length : Int) : Int) := of_decide_eq_true (by first | (with_reducible assumption) | assumption)
                          obtain ⟨go37, co37, eo37, gb37, gl37, cl37, HG37⟩ := Kd.R_form HO_187000.out (by omega)
                          (first | cases eo37 | (injection eo37 with ea_ en_ ec_; (first | subst ea_ | (injection ea_ with ea_; subst ea_)); subst ec_; clear en_))
                          have GB37 := Aside0.mk gb37
                          have GG37 := Aside0.mk HG37
                          clear gb37 gl37 HG37
                          have HMgo37 := Aside0.mk (show (P0_0_ go37 ∨ w.heap.size ≤ go37) from (HO_187000.out.1 _ rfl).1)
                          obtain ⟨hx37_0, hf37_0⟩ := Kd.R_celln 0 HO_187000.out ((ji34) : Int) p37 q37
                          replace p37 := eq_true p37
                          replace q37 := eq_true q37
                          have HP44 := Kd.R_putg HO_187000.out ((ji34) : Int) 0
                          try go_wp2_with (first | ((with_reducible refine gate_store (t := 5) (p := 52) rfl ?_); refine store_event (t := 5) (p := 52) (v := ?vo_w45) (w1 := (wr.setCell ⟨go37, ((ji34) : Int).toNat, none⟩ (.int .u8 0))) ?hg ?ho ?hn ?hr ?_; (case ho => rfl); (case hg => rfl); (case hn => rfl); (case hr => first | (go_simp; done) | (go_simp; rfl)); intro w45 hw; have hg : wr.grownBy w45 (some go37) := (by rw [hw]; exact HP44.2); have hp_ : Kd.R (Kd.int .u8) 5 w45 w0.heap.size (fun k_ => (P0_0_ k_ ∨ w.heap.size ≤ k_) ∧ some k_ ≠ (u185000 : Value).ownBlock) (.slice (some ⟨go37, 0, none⟩) x187000_2.length co37) y190 := (by rw [hw, Ny190.out]; exact HP44.1); clear HP44; have n0_ := Aside0.mk (Kd.R_after (v := (.slice (some ⟨go37, 0, none⟩) x187000_2.length co37)) (v1 := (.slice (some ⟨go37, 0, none⟩) x187000_2.length co37)) (ok := (fun k_ => (P0_0_ k_ ∨ w.heap.size ≤ k_))) (by (with_reducible repeat (first | apply Kd.R_alloc | apply Kd.R_drewN | apply Kd.R_drew)); exact HO_185000.out) hg (.inl rfl)); have n1_ := Aside0.mk (hp_); have n2_ := Aside0.mk (blk_grown (g := gb184) (o := .cells #[u185000, .int .i64 a0_1, .int .i64 a0_2] 44 (0, 0)) (by (with_reducible repeat (first | refine blk_drewN ?_ _ | refine blk_drew ?_ | refine blk_alloc ?_ _)); exact BK184.out) hg (Kd.R_ne HO_187000.out BK184.out (by decide))); have n3_ := Aside0.mk (blk_grown (g := gb185) (o := .cells #[.slice none 0 0, .int .i64 0, .int .i64 0] 44 (0, 0)) (by (with_reducible repeat (first | refine blk_drewN ?_ _ | refine blk_drew ?_ | refine blk_alloc ?_ _)); exact BK185.out) hg (Kd.R_ne HO_187000.out BK185.out (by decide))); have n4_ := Aside0.mk (blk_grown (g := gb186) (o := .cells #[.slice (some ⟨go37, 0, none⟩) x187000_2.length co37, .int .i64 (wrap64 (a0_1 + 1)), .int .i64 a0_2] 44 (0, 0)) (by (with_reducible repeat (first | refine blk_drewN ?_ _ | refine blk_drew ?_ | refine blk_alloc ?_ _)); exact BK186.out) hg (Kd.R_ne HO_187000.out BK186.out (by decide))); have n5_ := Aside0.mk ((by rw [hw]; exact below_set (HB.out) GB37.out : Below w0.heap.size w0 w45)); have n6_ := Aside0.mk (Kept.of_grown (S := (fun k_ => P0_0_ k_)) hg (by repeat (first | (with_reducible first | exact HK.out | apply Kept.alloc | apply Kept.drewN | apply Kept.drew | refine Kept.setCell ?_ (.inr GW184.out) _ | refine Kept.setCell ?_ (.inr GW185.out) _ | refine Kept.setCell ?_ (.inr GW186.out) _) | exact HK.out)) (fun k_ e_ => (HO_187000.out.1 k_ e_).1)); clear HO_185000; clear HO_187000; clear BK184; clear BK185; clear BK186; clear HB; clear HK; have HO_185000 := n0_; have HO_187000 := n1_; have BK184 := n2_; have BK185 := n3_; have BK186 := n4_; have HB := n5_; have HK := n6_; clear n0_ n1_ n2_ n3_ n4_ n5_ n6_; clear hg hw hp_))
                          have n0_ := Aside0.mk (Kd.R_drew HO_185000.out)
                          have n1_ := Aside0.mk (Kd.R_drew HO_187000.out)
                          have n2_ := Aside0.mk (blk_drew BK184.out)
                          have n3_ := Aside0.mk (blk_drew BK185.out)
                          have n4_ := Aside0.mk (blk_drew BK186.out)
                          have n5_ := Aside0.mk (Kept.drew HK.out)
                          have n6_ := Aside0.mk (below_drew1 HB.out)
                          clear HO_185000
                          clear HO_187000
                          clear BK184
                          clear BK185
                          clear BK186
                          clear HK
                          clear HB
                          have HO_185000 := n0_
                          have HO_187000 := n1_
                          have BK184 := n2_
                          have BK185 := n3_
                          have BK186 := n4_
                          have HK := n5_
                          have HB := n6_
                          clear n0_ n1_ n2_ n3_ n4_ n5_ n6_
                          have p191 : 0 ≤ (x9_2 : Int) := of_decide_eq_true (by first | (with_reducible assumption) | assumption)
                          have q191 : x9_2 < (l2.length : Int) := of_decide_eq_true (by first | (with_reducible assumption) | assumption)
                          obtain ⟨ad191, e191, hx191_0⟩ := Kd.at_int (Kd.C_kept_now HR2.out HK.out) x9_2 p191 q191
                          have hw191_0 := hx191_0
                          cases e191
                          replace p191 := eq_true p191
                          replace q191 := eq_true q191
                          have p40 : 0 ≤ ((ji34) : Int) := of_decide_eq_true (by first | (with_reducible assumption) | assumption)
                          have q40 : ((ji34) : Int) < ((x187000_2.length : Int) : Int) := of_decide_eq_true (by first | (with_reducible assumption) | assumption)
                          obtain ⟨hx40_0, hf40_0⟩ := Kd.R_celln 0 HO_187000.out ((ji34) : Int) p40 q40
                          replace p40 := eq_true p40
                          replace q40 := eq_true q40
                          have HP47 := Kd.R_putn HO_187000.out ((ji34) : Int) (rd l2 x9_2)
                          rw [← Ny192.out] at HP47
                          have HQ47 := Aside0.mk HP47
                          clear HP47
                          refine start_ (n := 12) (S := fun w' => w'.cell? ⟨gb186, 0, none⟩ = some (.slice (some ⟨go37, 0, none⟩) x187000_2.length co37) ∧ w'.cell? ⟨gb186, 1, none⟩ = some (.int .i64 (wrap64 (a0_1 + 1))) ∧ w'.cell? ⟨gb186, 2, none⟩ = some (.int .i64 a0_2) ∧ w'.cell? (ad191.add (x9_2).toNat) = some (.int .u8 (rd l2 x9_2))) (ds := [11]) #[false, false, false, false, false, false, false, false, false, false, false, false] (by kernel_rfl) rfl rfl ⟨(blk_cell BK186.out 0).trans rfl, (blk_cell BK186.out 1).trans rfl, (blk_cell BK186.out 2).trans rfl, (Kd.foot_int (HR2.out _ (by repeat (first | exact HK.out | apply Kept.alloc | apply Kept.drewN | apply Kept.drew | refine Kept.setCell ?_ HMgo37.out _))) x9_2 (of_eq_true p191) (of_eq_true q191))⟩ (fun hHeld => ?_); refine with_tabW redressref17_Write.tab12 redressref17_Write.bits12 (fun HT_ HW_ => ?_)
                          generalize w45.drew = w46 at HO_185000 HO_187000 BK184 BK185 BK186 HK HB HQ47 hf40_0 hx191_0 hx40_0 hHeld ⊢
                          refine pure_ (i := 0) (N := some 57) (v := ?_) (a' := ?_) #[true, false, false, false, false, false, false, false, false, false, false, false] rfl rfl (any_of HT_.out (by kernel_rfl)) (fun _ _ _ h => h) (Or.inl ⟨by rfl, ?_⟩) ?_ ?_
                          rotate_left
                          · intro w'
                            go_simp
                            with_reducible rfl
                          rotate_left
                          · simp only [Act.put, List.setIfInBounds_toArray, List.set_cons_zero, List.set_cons_succ, i64_w, i32_w]
                            rfl
                          refine pure_ (i := 2) (N := some 59) (v := ?_) (a' := ?_) #[true, false, true, false, false, false, false, false, false, false, false, false] rfl rfl (any_of HT_.out (by kernel_rfl)) (fun _ _ _ h => h) (Or.inl ⟨by rfl, ?_⟩) ?_ ?_
                          rotate_left
                          · intro w'
                            go_simp
                            with_reducible rfl
                          rotate_left
                          · simp only [Act.put, List.setIfInBounds_toArray, List.set_cons_zero, List.set_cons_succ, i64_w, i32_w]
                            rfl
                          refine pure_ (i := 3) (N := some 60) (v := ?_) (a' := ?_) #[true, false, true, true, false, false, false, false, false, false, false, false] rfl rfl (any_of HT_.out (by kernel_rfl)) (fun _ _ _ h => h) (Or.inl ⟨by rfl, ?_⟩) ?_ ?_
                          rotate_left
                          · intro w'
                            go_simp
                            with_reducible rfl
                          rotate_left
                          · simp only [Act.put, List.setIfInBounds_toArray, List.set_cons_zero, List.set_cons_succ, i64_w, i32_w]
                            rfl
                          refine pure_ (i := 4) (N := some 61) (v := ?_) (a' := ?_) #[true, false, true, true, true, false, false, false, false, false, false, false] rfl rfl (any_of HT_.out (by kernel_rfl)) (fun _ _ _ h => h) (Or.inl ⟨by rfl, ?_⟩) ?_ ?_
                          rotate_left
                          · intro w'
                            go_simp
                            with_reducible rfl
                          rotate_left
                          · simp only [Act.put, List.setIfInBounds_toArray, List.set_cons_zero, List.set_cons_succ, i64_w, i32_w]
                            rfl
                          refine pure_ (i := 5) (N := some 62) (v := ?_) (a' := ?_) #[true, false, true, true, true, true, false, false, false, false, false, false] rfl rfl (any_of HT_.out (by kernel_rfl)) (fun _ _ _ h => h) (Or.inl ⟨by rfl, ?_⟩) ?_ ?_
                          rotate_left
                          · intro w'
                            go_simp
                            with_reducible rfl
                          rotate_left
                          · simp only [Act.put, List.setIfInBounds_toArray, List.set_cons_zero, List.set_cons_succ, i64_w, i32_w]
                            rfl
                          refine pure_ (i := 6) (N := some 63) (v := ?_) (a' := ?_) #[true, false, true, true, true, true, true, false, false, false, false, false] rfl rfl (any_of HT_.out (by kernel_rfl)) (fun _ _ _ h => h) (Or.inl ⟨by rfl, ?_⟩) ?_ ?_
                          rotate_left
                          · intro w'
                            go_simp
                            with_reducible rfl
                          rotate_left
                          · simp only [Act.put, List.setIfInBounds_toArray, List.set_cons_zero, List.set_cons_succ, i64_w, i32_w]
                            rfl
                          refine pure_ (i := 7) (N := some 64) (v := ?_) (a' := ?_) #[true, false, true, true, true, true, true, true, false, false, false, false] rfl rfl (any_of HT_.out (by kernel_rfl)) (fun _ _ _ h => h) (Or.inl ⟨by rfl, ?_⟩) ?_ ?_
                          rotate_left
                          · intro w'
                            go_simp
                            with_reducible rfl
                          rotate_left
                          · simp only [Act.put, List.setIfInBounds_toArray, List.set_cons_zero, List.set_cons_succ, i64_w, i32_w]
                            rfl
                          refine pure_ (i := 8) (N := some 65) (v := ?_) (a' := ?_) #[true, false, true, true, true, true, true, true, true, false, false, false] rfl rfl (any_of HT_.out (by kernel_rfl)) (fun _ _ _ h => h) (Or.inl ⟨by rfl, ?_⟩) ?_ ?_
                          rotate_left
                          · intro w'
                            go_simp
                            with_reducible rfl
                          rotate_left
                          · simp only [Act.put, List.setIfInBounds_toArray, List.set_cons_zero, List.set_cons_succ, i64_w, i32_w]
                            rfl
                          refine take_ (i := 1) (N := some 58) (v := ?_) (a' := ?_) #[true, true, true, true, true, true, true, true, true, false, false, false] rfl rfl (take_ofW HT_.out HW_.out (by kernel_rfl)) (fun _ _ _ h => h) (Or.inl ⟨by rfl, ?_⟩) hHeld ?_ ?_
                          rotate_left
                          · rintro w' ⟨s0, s1, s2, s3⟩
                            go_simp
                            with_reducible rfl
                          rotate_left
                          · simp only [Act.put, List.setIfInBounds_toArray, List.set_cons_zero, List.set_cons_succ, i64_w, i32_w]
                            rfl
                          refine take_ (i := 9) (N := some 66) (v := ?_) (a' := ?_) #[true, true, true, true, true, true, true, true, true, true, false, false] rfl rfl (take_ofW HT_.out HW_.out (by kernel_rfl)) (fun _ _ _ h => h) (Or.inl ⟨by rfl, ?_⟩) hHeld ?_ ?_
                          rotate_left
                          · rintro w' ⟨s0, s1, s2, s3⟩
                            go_simp
                            with_reducible rfl
                          rotate_left
                          · simp only [Act.put, List.setIfInBounds_toArray, List.set_cons_zero, List.set_cons_succ, i64_w, i32_w]
                            rfl
                          refine pure_ (i := 10) (N := some 67) (v := ?_) (a' := ?_) #[true, true, true, true, true, true, true, true, true, true, true, false] rfl rfl (any_of HT_.out (by kernel_rfl)) (fun _ _ _ h => h) (Or.inl ⟨by rfl, ?_⟩) ?_ ?_
                          rotate_left
                          · intro w'
                            go_simp
                            with_reducible rfl
                          rotate_left
                          · simp only [Act.put, List.setIfInBounds_toArray, List.set_cons_zero, List.set_cons_succ, i64_w, i32_w]
                            rfl
                          refine last_ (i := 11) (N := none) #[true, true, true, true, true, true, true, true, true, true, true, true] rfl rfl (one_of HT_.out (by kernel_rfl)) (by decide) (fun K hK => ?_)
                          refine skip_ (w1 := ?_) (by rfl) rfl ?_ ?_
                          rotate_left
                          · go_simp
                            rfl
                          refine hK.out _ _ ?_
                          clear hK K
                          refine done_ (done_of HT_.out (by kernel_rfl)) ?_
                          try go_wp2
                          go_roundg k2
                          case measure => have := HJ3.out; have := HK2.out; omega
                          case rel => exact ⟨(wrap64 (x9_2 + 1)), (x185000_2), (y192), (u185000), (.slice (some ⟨go37, 0, none⟩) x187000_2.length co37), (by first | rfl | (simp; done) | (simp [*]; done)), H', ⟨by have := HJ3.out; have := HK2.out; omega⟩, ⟨by (with_reducible repeat (first | apply Kd.R_alloc | apply Kd.R_drewN | apply Kd.R_drew)); exact Kd.R_mono (Kd.R_far (p := ⟨go37, ((ji34) : Int).toNat, none⟩) (Kd.R_mono HO_185000.out (fun k_ hk => (⟨hk, fun e_ => hk.2 (by rw [e_]; rfl)⟩ : _ ∧ k_ ≠ go37))) (fun _ hk => hk.2) (.int .u8 (rd l2 x9_2))) (fun _ hk => ⟨hk.1.1, hk.1.2⟩)⟩, ⟨by (with_reducible repeat (first | apply Kd.R_alloc | apply Kd.R_drewN | apply Kd.R_drew)); exact HQ47.out⟩, ⟨by (with_reducible repeat (first | refine blk_drewN ?_ _ | refine blk_drew ?_ | refine blk_alloc ?_ _)); refine blk_far ?_ (by have h_ := Kd.R_ne HO_187000.out BK184.out (by decide); intro e_; exact h_ (by rw [e_]; rfl)) _; (with_reducible repeat (first | refine blk_drewN ?_ _ | refine blk_drew ?_ | refine blk_alloc ?_ _)); exact BK184.out⟩, ⟨by (with_reducible repeat (first | refine blk_drewN ?_ _ | refine blk_drew ?_ | refine blk_alloc ?_ _)); refine blk_far ?_ (by have h_ := Kd.R_ne HO_187000.out BK185.out (by decide); intro e_; exact h_ (by rw [e_]; rfl)) _; (with_reducible repeat (first | refine blk_drewN ?_ _ | refine blk_drew ?_ | refine blk_alloc ?_ _)); exact BK185.out⟩, ⟨by (with_reducible repeat (first | refine blk_drewN ?_ _ | refine blk_drew ?_ | refine blk_alloc ?_ _)); refine blk_far ?_ (by have h_ := Kd.R_ne HO_187000.out BK186.out (by decide); intro e_; exact h_ (by rw [e_]; rfl)) _; (with_reducible repeat (first | refine blk_drewN ?_ _ | refine blk_drew ?_ | refine blk_alloc ?_ _)); exact BK186.out⟩, ⟨by repeat (first | (with_reducible first | exact HK.out | apply Kept.alloc | apply Kept.drewN | apply Kept.drew | refine Kept.setCell ?_ HMgo37.out _ | refine Kept.setCell ?_ (.inr GW184.out) _ | refine Kept.setCell ?_ (.inr GW185.out) _ | refine Kept.setCell ?_ (.inr GW186.out) _) | exact HK.out)⟩, ⟨by repeat (first | (with_reducible first | exact HB.out | apply below_alloc | apply pw_below_drewN | apply below_drew1 | refine below_set ?_ GB37.out | refine below_set ?_ GE184.out | refine below_set ?_ GE185.out | refine below_set ?_ GE186.out) | exact HB.out)⟩⟩
                        · rw [if_neg c39] at H
                          exact absurd H (by simp)
                      · rw [if_neg c38] at H
                        have c38b0 : decide (x9_2 < (l2.length : Int)) = false := decide_eq_false c38
                        clear c38
                        have H' := Aside0.mk H
                        clear H
                        have hnb48 := NB186_184.out
                        have hnc48 := NB184_186.out
                        have hnb49 := NB186_185.out
                        have hnc49 := NB185_186.out
                        have hcz50_0 : wr.cell? ⟨gb186, 0, none⟩ = some (u187000) := (blk_cell BK186.out 0).trans rfl
                        have hcz50_1 : wr.cell? ⟨gb186, 1, none⟩ = some (.int .i64 (wrap64 (a0_1 + 1))) := (blk_cell BK186.out 1).trans rfl
                        have hcz50_2 : wr.cell? ⟨gb186, 2, none⟩ = some (.int .i64 a0_2) := (blk_cell BK186.out 2).trans rfl
                        have hfz50_0 := blk_frozen BK186.out 0
                        have hfz50_1 := blk_frozen BK186.out 1
                        have hfz50_2 := blk_frozen BK186.out 2
                        have p37 : 0 ≤ ((ji34) : Int) := of_decide_eq_true (by first | (with_reducible assumption) | assumption)
                        have q37 : ((ji34) : Int) < ((x187000_2.length : Int) : Int) := of_decide_eq_true (by first | (with_reducible assumption) | assumption)
                        obtain ⟨go37, co37, eo37, gb37, gl37, cl37, HG37⟩ := Kd.R_form HO_187000.out (by omega)
                        (first | cases eo37 | (injection eo37 with ea_ en_ ec_; (first | subst ea_ | (injection ea_ with ea_; subst ea_)); subst ec_; clear en_))
                        have GB37 := Aside0.mk gb37
                        have GG37 := Aside0.mk HG37
                        clear gb37 gl37 HG37
                        have HMgo37 := Aside0.mk (show (P0_0_ go37 ∨ w.heap.size ≤ go37) from (HO_187000.out.1 _ rfl).1)
                        obtain ⟨hx37_0, hf37_0⟩ := Kd.R_celln 0 HO_187000.out ((ji34) : Int) p37 q37
                        replace p37 := eq_true p37
                        replace q37 := eq_true q37
                        have HP51 := Kd.R_putg HO_187000.out ((ji34) : Int) 0
                        go_wp2_with (first | ((with_reducible refine gate_store (t := 5) (p := 52) rfl ?_); refine store_event (t := 5) (p := 52) (v := ?vo_w52) (w1 := (wr.setCell ⟨go37, ((ji34) : Int).toNat, none⟩ (.int .u8 0))) ?hg ?ho ?hn ?hr ?_; (case ho => rfl); (case hg => rfl); (case hn => rfl); (case hr => first | (go_simp; done) | (go_simp; rfl)); intro w52 hw; have hg : wr.grownBy w52 (some go37) := (by rw [hw]; exact HP51.2); have hp_ : Kd.R (Kd.int .u8) 5 w52 w0.heap.size (fun k_ => (P0_0_ k_ ∨ w.heap.size ≤ k_) ∧ some k_ ≠ (u185000 : Value).ownBlock) (.slice (some ⟨go37, 0, none⟩) x187000_2.length co37) y190 := (by rw [hw, Ny190.out]; exact HP51.1); clear HP51; have n0_ := Aside0.mk (Kd.R_after (v := (.slice (some ⟨go37, 0, none⟩) x187000_2.length co37)) (v1 := (.slice (some ⟨go37, 0, none⟩) x187000_2.length co37)) (ok := (fun k_ => (P0_0_ k_ ∨ w.heap.size ≤ k_))) (by (with_reducible repeat (first | apply Kd.R_alloc | apply Kd.R_drewN | apply Kd.R_drew)); exact HO_185000.out) hg (.inl rfl)); have n1_ := Aside0.mk (hp_); have n2_ := Aside0.mk (blk_grown (g := gb184) (o := .cells #[u185000, .int .i64 a0_1, .int .i64 a0_2] 44 (0, 0)) (by (with_reducible repeat (first | refine blk_drewN ?_ _ | refine blk_drew ?_ | refine blk_alloc ?_ _)); exact BK184.out) hg (Kd.R_ne HO_187000.out BK184.out (by decide))); have n3_ := Aside0.mk (blk_grown (g := gb185) (o := .cells #[.slice none 0 0, .int .i64 0, .int .i64 0] 44 (0, 0)) (by (with_reducible repeat (first | refine blk_drewN ?_ _ | refine blk_drew ?_ | refine blk_alloc ?_ _)); exact BK185.out) hg (Kd.R_ne HO_187000.out BK185.out (by decide))); have n4_ := Aside0.mk (blk_grown (g := gb186) (o := .cells #[.slice (some ⟨go37, 0, none⟩) x187000_2.length co37, .int .i64 (wrap64 (a0_1 + 1)), .int .i64 a0_2] 44 (0, 0)) (by (with_reducible repeat (first | refine blk_drewN ?_ _ | refine blk_drew ?_ | refine blk_alloc ?_ _)); exact BK186.out) hg (Kd.R_ne HO_187000.out BK186.out (by decide))); have n5_ := Aside0.mk ((by rw [hw]; exact below_set (HB.out) GB37.out : Below w0.heap.size w0 w52)); have n6_ := Aside0.mk (Kept.of_grown (S := (fun k_ => P0_0_ k_)) hg (by repeat (first | (with_reducible first | exact HK.out | apply Kept.alloc | apply Kept.drewN | apply Kept.drew | refine Kept.setCell ?_ (.inr GW184.out) _ | refine Kept.setCell ?_ (.inr GW185.out) _ | refine Kept.setCell ?_ (.inr GW186.out) _) | exact HK.out)) (fun k_ e_ => (HO_187000.out.1 k_ e_).1)); clear HO_185000; clear HO_187000; clear BK184; clear BK185; clear BK186; clear HB; clear HK; have HO_185000 := n0_; have HO_187000 := n1_; have BK184 := n2_; have BK185 := n3_; have BK186 := n4_; have HB := n5_; have HK := n6_; clear n0_ n1_ n2_ n3_ n4_ n5_ n6_; clear hg hw hp_))
                        go_roundg k2
                        case measure => have := HJ3.out; have := HK2.out; omega
                        case rel => exact ⟨(wrap64 (x9_2 + 1)), (x185000_2), (y190), (u185000), (.slice (some ⟨go37, 0, none⟩) x187000_2.length co37), (by first | rfl | (simp; done) | (simp [*]; done)), H', ⟨by have := HJ3.out; have := HK2.out; omega⟩, ⟨by (with_reducible repeat (first | apply Kd.R_alloc | apply Kd.R_drewN | apply Kd.R_drew)); exact HO_185000.out⟩, ⟨by (with_reducible repeat (first | apply Kd.R_alloc | apply Kd.R_drewN | apply Kd.R_drew)); exact HO_187000.out⟩, ⟨by (with_reducible repeat (first | refine blk_drewN ?_ _ | refine blk_drew ?_ | refine blk_alloc ?_ _)); exact BK184.out⟩, ⟨by (with_reducible repeat (first | refine blk_drewN ?_ _ | refine blk_drew ?_ | refine blk_alloc ?_ _)); exact BK185.out⟩, ⟨by (with_reducible repeat (first | refine blk_drewN ?_ _ | refine blk_drew ?_ | refine blk_alloc ?_ _)); exact BK186.out⟩, ⟨by repeat (first | (with_reducible first | exact HK.out | apply Kept.alloc | apply Kept.drewN | apply Kept.drew | refine Kept.setCell ?_ (.inr GW184.out) _ | refine Kept.setCell ?_ (.inr GW185.out) _ | refine Kept.setCell ?_ (.inr GW186.out) _) | exact HK.out)⟩, ⟨by repeat (first | (with_reducible first | exact HB.out | apply below_alloc | apply pw_below_drewN | apply below_drew1 | refine below_set ?_ GE184.out | refine below_set ?_ GE185.out | refine below_set ?_ GE186.out) | exact HB.out)⟩⟩
                    · rw [if_neg c36] at H
                      exact absurd H (by simp)
                  · rw [if_neg c35] at H
                    exact absurd H (by simp)
                · rw [if_neg c33] at H
                  have c33b0 : decide (x9_2 < 16) = false := decide_eq_false c33
                  clear c33
                  by_cases c53 : a0_2 > 0
                  · rw [if_pos c53] at H
                    have c53b0 : decide (0 < a0_2) = true := decide_eq_true c53
                    clear c53
                    simp only [Option.some.injEq, Prod.mk.injEq] at H
                    obtain ⟨rfl, rfl, rfl, rfl⟩ := H
                    have hnb54 := NB186_184.out
                    have hnc54 := NB184_186.out
                    have hnb55 := NB186_185.out
                    have hnc55 := NB185_186.out
                    have hcz56_0 : wr.cell? ⟨gb186, 0, none⟩ = some (u187000) := (blk_cell BK186.out 0).trans rfl
                    have hcz56_1 : wr.cell? ⟨gb186, 1, none⟩ = some (.int .i64 (wrap64 (a0_1 + 1))) := (blk_cell BK186.out 1).trans rfl
                    have hcz56_2 : wr.cell? ⟨gb186, 2, none⟩ = some (.int .i64 a0_2) := (blk_cell BK186.out 2).trans rfl
                    have hfz56_0 := blk_frozen BK186.out 0
                    have hfz56_1 := blk_frozen BK186.out 1
                    have hfz56_2 := blk_frozen BK186.out 2
                    obtain ⟨Ao57, co57, eo57⟩ := Kd.R_slice HO_187000.out
                    subst eo57
                    have hnb58 := NB185_184.out
                    have hnc58 := NB184_185.out
                    have hcz59_0 : wr.cell? ⟨gb185, 0, none⟩ = some (.slice none 0 0) := (blk_cell BK185.out 0).trans rfl
                    have hcz59_1 : wr.cell? ⟨gb185, 1, none⟩ = some (.int .i64 0) := (blk_cell BK185.out 1).trans rfl
                    have hcz59_2 : wr.cell? ⟨gb185, 2, none⟩ = some (.int .i64 0) := (blk_cell BK185.out 2).trans rfl
                    have hfz59_0 := blk_frozen BK185.out 0
                    have hfz59_1 := blk_frozen BK185.out 1
                    have hfz59_2 := blk_frozen BK185.out 2
                    go_wp2
                    refine bodyPost_ret (results_ct rfl _ _ gb185 44 #[.slice Ao57 x187000_2.length co57, .int .i64 (wrap64 (a0_1 + 1)), .int .i64 (wrap64 (a0_2 - 1))] (0, 0) _ rfl (by (with_reducible repeat (first | refine blk_drewN ?_ _ | refine blk_drew ?_ | refine blk_alloc ?_ _)); refine blk_put (cs := #[.slice Ao57 x187000_2.length co57, .int .i64 (wrap64 (a0_1 + 1)), .int .i64 0]) ?_ 2 _ rfl; (with_reducible repeat (first | refine blk_drewN ?_ _ | refine blk_drew ?_ | refine blk_alloc ?_ _)); refine blk_put (cs := #[.slice Ao57 x187000_2.length co57, .int .i64 0, .int .i64 0]) ?_ 1 _ rfl; (with_reducible repeat (first | refine blk_drewN ?_ _ | refine blk_drew ?_ | refine blk_alloc ?_ _)); refine blk_put (cs := #[.slice none 0 0, .int .i64 0, .int .i64 0]) ?_ 0 _ rfl; (with_reducible repeat (first | refine blk_drewN ?_ _ | refine blk_drew ?_ | refine blk_alloc ?_ _)); refine blk_far ?_ NB185_186.out _; (with_reducible repeat (first | refine blk_drewN ?_ _ | refine blk_drew ?_ | refine blk_alloc ?_ _)); exact BK185.out) Try.underlying44 rfl (by kernel_rfl)) rfl ?_
                    exact ⟨_, by first | rfl | (simp [errW_none, errW_some] <;> rfl) | (simp [*, errW_none, errW_some] <;> rfl), by (with_reducible repeat (first | apply Kd.R_alloc | apply Kd.R_drewN | apply Kd.R_drew)); exact Kd.R_mono (Kd.R_far (p := ⟨gb185, 2, none⟩) (Kd.R_far (p := ⟨gb185, 1, none⟩) (Kd.R_far (p := ⟨gb185, 0, none⟩) (Kd.R_far (p := ⟨gb186, 2, none⟩) (Kd.R_types (Kd.R_types HO_187000.out BK186.out (by decide)) BK185.out (by decide)) (fun _ hk => hk.1.2) (.int .i64 (wrap64 (a0_2 - 1)))) (fun _ hk => hk.2) (.slice Ao57 x187000_2.length co57)) (fun _ hk => hk.2) (.int .i64 (wrap64 (a0_1 + 1)))) (fun _ hk => hk.2) (.int .i64 (wrap64 (a0_2 - 1)))) (fun _ hk => hk.1.1.1), by repeat (first | (with_reducible first | exact HB.out | apply below_alloc | apply pw_below_drewN | apply below_drew1 | refine below_set ?_ GE184.out | refine below_set ?_ GE185.out | refine below_set ?_ GE186.out) | exact HB.out), by repeat (first | (with_reducible first | exact HK.out | apply Kept.alloc | apply Kept.drewN | apply Kept.drew | refine Kept.setCell ?_ (.inr GW184.out) _ | refine Kept.setCell ?_ (.inr GW185.out) _ | refine Kept.setCell ?_ (.inr GW186.out) _) | exact HK.out)⟩
                  · rw [if_neg c53] at H
                    have c53b0 : decide (0 < a0_2) = false := decide_eq_false c53
                    clear c53
                    simp only [Option.some.injEq, Prod.mk.injEq] at H
                    obtain ⟨rfl, rfl, rfl, rfl⟩ := H
                    have hnb60 := NB186_184.out
                    have hnc60 := NB184_186.out
                    have hnb61 := NB186_185.out
                    have hnc61 := NB185_186.out
                    have hcz62_0 : wr.cell? ⟨gb186, 0, none⟩ = some (u187000) := (blk_cell BK186.out 0).trans rfl
                    have hcz62_1 : wr.cell? ⟨gb186, 1, none⟩ = some (.int .i64 (wrap64 (a0_1 + 1))) := (blk_cell BK186.out 1).trans rfl
                    have hcz62_2 : wr.cell? ⟨gb186, 2, none⟩ = some (.int .i64 a0_2) := (blk_cell BK186.out 2).trans rfl
                    have hfz62_0 := blk_frozen BK186.out 0
                    have hfz62_1 := blk_frozen BK186.out 1
                    have hfz62_2 := blk_frozen BK186.out 2
                    obtain ⟨Ao63, co63, eo63⟩ := Kd.R_slice HO_187000.out
                    subst eo63
                    have hnb64 := NB185_184.out
                    have hnc64 := NB184_185.out
                    have hcz65_0 : wr.cell? ⟨gb185, 0, none⟩ = some (.slice none 0 0) := (blk_cell BK185.out 0).trans rfl
                    have hcz65_1 : wr.cell? ⟨gb185, 1, none⟩ = some (.int .i64 0) := (blk_cell BK185.out 1).trans rfl
                    have hcz65_2 : wr.cell? ⟨gb185, 2, none⟩ = some (.int .i64 0) := (blk_cell BK185.out 2).trans rfl
                    have hfz65_0 := blk_frozen BK185.out 0
                    have hfz65_1 := blk_frozen BK185.out 1
                    have hfz65_2 := blk_frozen BK185.out 2
                    go_wp2
                    refine bodyPost_ret (results_ct rfl _ _ gb185 44 #[.slice Ao63 x187000_2.length co63, .int .i64 (wrap64 (a0_1 + 1)), .int .i64 a0_2] (0, 0) _ rfl (by (with_reducible repeat (first | refine blk_drewN ?_ _ | refine blk_drew ?_ | refine blk_alloc ?_ _)); refine blk_put (cs := #[.slice Ao63 x187000_2.length co63, .int .i64 (wrap64 (a0_1 + 1)), .int .i64 0]) ?_ 2 _ rfl; (with_reducible repeat (first | refine blk_drewN ?_ _ | refine blk_drew ?_ | refine blk_alloc ?_ _)); refine blk_put (cs := #[.slice Ao63 x187000_2.length co63, .int .i64 0, .int .i64 0]) ?_ 1 _ rfl; (with_reducible repeat (first | refine blk_drewN ?_ _ | refine blk_drew ?_ | refine blk_alloc ?_ _)); refine blk_put (cs := #[.slice none 0 0, .int .i64 0, .int .i64 0]) ?_ 0 _ rfl; (with_reducible repeat (first | refine blk_drewN ?_ _ | refine blk_drew ?_ | refine blk_alloc ?_ _)); exact BK185.out) Try.underlying44 rfl (by kernel_rfl)) rfl ?_
                    exact ⟨_, by first | rfl | (simp [errW_none, errW_some] <;> rfl) | (simp [*, errW_none, errW_some] <;> rfl), by (with_reducible repeat (first | apply Kd.R_alloc | apply Kd.R_drewN | apply Kd.R_drew)); exact Kd.R_mono (Kd.R_far (p := ⟨gb185, 2, none⟩) (Kd.R_far (p := ⟨gb185, 1, none⟩) (Kd.R_far (p := ⟨gb185, 0, none⟩) (Kd.R_types HO_187000.out BK185.out (by decide)) (fun _ hk => hk.2) (.slice Ao63 x187000_2.length co63)) (fun _ hk => hk.2) (.int .i64 (wrap64 (a0_1 + 1)))) (fun _ hk => hk.2) (.int .i64 a0_2)) (fun _ hk => hk.1.1), by repeat (first | (with_reducible first | exact HB.out | apply below_alloc | apply pw_below_drewN | apply below_drew1 | refine below_set ?_ GE184.out | refine below_set ?_ GE185.out | refine below_set ?_ GE186.out) | exact HB.out), by repeat (first | (with_reducible first | exact HK.out | apply Kept.alloc | apply Kept.drewN | apply Kept.drew | refine Kept.setCell ?_ (.inr GW184.out) _ | refine Kept.setCell ?_ (.inr GW185.out) _ | refine Kept.setCell ?_ (.inr GW186.out) _) | exact HK.out)⟩
          · rw [if_neg c22] at H
            exact absurd H (by simp)

end Go.Proofs.Ytbjjpckldjjcgaa.PK

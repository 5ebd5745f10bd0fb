/- The dealer: what is told of its deeds (printed by genB.py). -/
import Derived.Test.YtohenapbgencbaaA
namespace Go.Proofs.Ytohenapbgencbaa
open Go.RowKit Go.Proofs.YtohenapbgencbaaW.PrintWords Go.Proofs.YtohenapbgencbaaW.PrintLast Go.Proofs.YtohenapbgencbaaW.PrintMore Go.Proofs.Ytohenapbgencbaa.PK
set_option linter.unusedVariables false
set_option linter.unusedSimpArgs false
set_option maxHeartbeats 4000000
set_option maxRecDepth 100000
namespace Deal

theorem IsDone (x : S53) (w : World) : Calls Try.prog 31 #[.agg #[.int .i64 x.f0, .string x.f1, .bool x.f2]] w fun e w' => e = .returned (.bool x.f2) ∧ Below w.heap.size w w' := by
  go_enter Try.func31, Try.ntmps31
  go_wp2_with fail
  go_ret
  exact ⟨rfl, (Below.refl _ _).alloc (Nat.le_refl _) _⟩
theorem IsNot (x : S53) (w : World) : Calls Try.prog 28 #[.agg #[.int .i64 x.f0, .string x.f1, .bool x.f2]] w fun e w' => e = .returned (.bool (!x.f2)) ∧ Below w.heap.size w w' := by
  go_enter Try.func28, Try.ntmps28
  go_wp2_with fail
  go_ret
  exact ⟨rfl, (Below.refl _ _).alloc (Nat.le_refl _) _⟩
theorem NameOf (x : S53) (w : World) : Calls Try.prog 29 #[.agg #[.int .i64 x.f0, .string x.f1, .bool x.f2]] w fun e w' => e = .returned (.string x.f1) ∧ Below w.heap.size w w' := by
  go_enter Try.func29, Try.ntmps29
  go_wp2_with fail
  go_ret
  exact ⟨rfl, (Below.refl _ _).alloc (Nat.le_refl _) _⟩
def pick (may : S53 → Bool) (l : List S53) : List ByteArray := (l.filter may).map (·.f1)
theorem pick_snoc (may : S53 → Bool) (l : List S53) (x : S53) : pick may (l ++ [x]) = if may x = true then pick may l ++ [x.f1] else pick may l := by
  unfold pick
  rw [List.filter_append]
  by_cases h : may x = true
  · simp [h]
  · simp [h]
theorem pick_len (may : S53 → Bool) (l : List S53) : (pick may l).length ≤ l.length := by
  unfold pick; rw [List.length_map]; exact List.length_filter_le _ _
theorem Picked31 (A : Option Addr) (c : Nat) (l : List S53) (w : World) (hr : Kd.C k53 w A l.length l) (hc : l.length ≤ c) (hl : l.length ≤ 1000000) :
    Calls Try.prog 27 #[.slice A l.length c, .func (.func 31) #[] #[], .func (.func 29) #[] #[]] w (Made Kd.string 9 w (pick (fun x => x.f2) l)) := by
  have HR := Aside0.mk hr; clear hr
  go_enter Try.func27, Try.ntmps27
  go_wp2_with fail
  go_loopg [7, 12] (l.length + 1) (fun kq v7 v12 w' => ∃ (j : Nat), v12 = .int .i64 (j : Int) ∧ Aside0 (kq + j = l.length + 1 ∧ j ≤ l.length) ∧ Aside0 (Kd.R Kd.string 9 w' w.heap.size (fun _ => True) v7 (pick (fun x => x.f2) (l.take j))) ∧ Aside0 (Below w.heap.size w w'))
  case atStart => exact ⟨0, rfl, ⟨by omega, by omega⟩, ⟨Kd.R_nil _ _ _ _ _⟩, ⟨Below.refl _ _⟩⟩
  case round =>
    obtain ⟨j, rfl, HK, HO, HB⟩ := hrel
    cases gk with
    | zero => exact absurd HK.out (by omega)
    | succ k1 =>
      by_cases hj : j < l.length
      · have c14 : decide ((j : Int) < (l.length : Int)) = true := decide_eq_true (by omega)
        have p0 : (0 : Int) ≤ (j : Int) := by omega
        have q0 : (j : Int) < (l.length : Int) := by omega
        obtain ⟨ad, e7, x0, x1, x2⟩ := at_T53 HR.out (j : Int) p0 q0
        cases e7
        simp only [Int.toNat_natCast] at x0 x1 x2
        obtain ⟨o, ho⟩ : ∃ o, o = rd_T53 l (j : Int) := ⟨_, rfl⟩
        have ho2 : o = l[j] := by rw [ho]; unfold rd_T53; simp [List.getD_eq_getElem?_getD, List.getElem?_eq_getElem hj]
        rw [← ho] at x0 x1 x2
        replace x0 := (HB.out.cell (World.block_lt_of_cell? w _ x0)).trans x0
        replace x1 := (HB.out.cell (World.block_lt_of_cell? w _ x1)).trans x1
        replace x2 := (HB.out.cell (World.block_lt_of_cell? w _ x2)).trans x2
        have hp := pick_snoc (fun x => x.f2) (l.take j) o
        rw [ho2, ← List.take_succ_eq_append_getElem hj, ← ho2] at hp
        have HP := Aside0.mk hp
        have HPL := Aside0.mk (show (pick (fun x => x.f2) (l.take j)).length ≤ 1000000 from Nat.le_trans (pick_len _ _) (by rw [List.length_take]; omega))
        clear ho ho2 hp
        have ej : IntKind.i64.wrap ((j : Int) + 1) = ((j + 1 : Nat) : Int) := by rw [IntKind.wrap_i64]; omega
        go_upto_region 5 with fail
        obtain ⟨w6, hw6⟩ : ∃ w6, w6 = wr.alloc (.cells #[.int .i64 o.f0, .string o.f1, .bool o.f2] 42) := ⟨_, rfl⟩
        rw [← hw6]
        have hx6 : w6.heap[wr.heap.size]? = some (.cells #[.int .i64 o.f0, .string o.f1, .bool o.f2] 42 (0, 0)) := by rw [hw6]; exact Aid.heap_new wr _
        have HX6 := Aside0.mk hx6
        have HB6 := Aside0.mk (show Below w.heap.size w w6 by rw [hw6]; exact HB.out.alloc HB.out.size _)
        have HO6 := Aside0.mk (show Kd.R Kd.string 9 w6 w.heap.size (fun _ => True) u7 (pick (fun x => x.f2) (l.take j)) by rw [hw6]; exact Kd.R_alloc HO.out _)
        obtain ⟨x, hx⟩ : ∃ x, x = wr.heap.size := ⟨_, rfl⟩
        rw [← hx] at HX6 ⊢
        have z0 : w6.cell? ⟨x, 0, none⟩ = some (.int .i64 o.f0) := by rw [cell_of_row _ _ _ _ _ _ HX6.out]; rfl
        have z1 : w6.cell? ⟨x, 1, none⟩ = some (.string o.f1) := by rw [cell_of_row _ _ _ _ _ _ HX6.out]; rfl
        have z2 : w6.cell? ⟨x, 2, none⟩ = some (.bool o.f2) := by rw [cell_of_row _ _ _ _ _ _ HX6.out]; rfl
        clear hx6 hw6 HO HB x0 x1 x2 hx
        go_wp2_with fail
        refine (IsDone o w6).mono ?_; rintro e w7 ⟨rfl, hb7⟩
        clear z0 z1 z2
        have HX7 := Aside0.mk ((hb7.block _ (blk_lt HX6.out)).trans HX6.out)
        have HB7 := Aside0.mk (Aid.bthen HB6.out hb7)
        have HO7 := Aside0.mk (Kd.R_kept HO6.out (Kept.of_below hb7 (fun _ => False)) (fun _ _ hf => hf))
        clear hb7 HX6 HB6 HO6
        by_cases hm : (o.f2) = true
        · rw [hm]
          have HP2 := Aside0.mk (HP.out.trans (if_pos hm))
          clear hm HP
          have z0 : w7.cell? ⟨x, 0, none⟩ = some (.int .i64 o.f0) := by rw [cell_of_row _ _ _ _ _ _ HX7.out]; rfl
          have z1 : w7.cell? ⟨x, 1, none⟩ = some (.string o.f1) := by rw [cell_of_row _ _ _ _ _ _ HX7.out]; rfl
          have z2 : w7.cell? ⟨x, 2, none⟩ = some (.bool o.f2) := by rw [cell_of_row _ _ _ _ _ _ HX7.out]; rfl
          go_wp2_with fail
          refine (NameOf o w7).mono ?_; rintro e w8 ⟨rfl, hb8⟩
          clear z0 z1 z2
          have HB8 := Aside0.mk (Aid.bthen HB7.out hb8)
          have HO8 := Aside0.mk (Kd.R_kept HO7.out (Kept.of_below hb8 (fun _ => False)) (fun _ _ hf => hf))
          clear hb8 HB7 HO7 HX7
          go_wp2_with ((with_reducible refine gate_builtin (b := .append) (xs := #[.tmp 19, .tmp 23]) rfl ?_); at_builtin; refine Kd.R_append Kd.string (w0 := w) w.heap.size rfl (.tmp 19) (.tmp 23) 44 9 (.string ⟨#[]⟩) 16 rfl Try.underlying44 info9 rfl (by decide) (by omega) u7 (pick (fun x => x.f2) (l.take j)) o.f1 [.string o.f1] (fun _ => True) (fun _ => False) rfl rfl ?aP (fun _ hk => hk.elim) ?aF ?aO ?aB ?aS ?aL ?_; (case aP => exact rfl); (case aB => exact HB8.out); (case aF => exact (fun _ _ => trivial)); (case aO => exact HO8.out); (case aS => exact (below_size HB8.out)); (case aL => have := HPL.out; omega); intro v9 w9 ho hb hg hat; rw [← HP2.out] at ho; have HB9 := Aside0.mk hb; have HO9 := Aside0.mk ho; clear ho hb hg hat)
          go_roundg k1
          case measure => omega
          case rel => exact ⟨j + 1, by first | (simp; done) | rw [ej], ⟨by have := HK.out; omega, by omega⟩, HO9, HB9⟩
        · have hm : (o.f2) = false := by simpa using hm
          rw [hm]
          have HP2 := Aside0.mk (HP.out.trans (if_neg (by rw [show (o.f2) = false from hm]; decide)))
          clear hm HP
          go_wp2_with fail
          have HO9 := HO7; rw [← HP2.out] at HO9
          go_roundg k1
          case measure => omega
          case rel => exact ⟨j + 1, by first | (simp; done) | rw [ej], ⟨by have := HK.out; omega, by omega⟩, HO9, HB7⟩
      · have c14 : decide ((j : Int) < (l.length : Int)) = false := decide_eq_false (by omega)
        have HO9 := HO
        rw [List.take_of_length_le (by omega)] at HO9
        clear HK HO
        go_wp2_with fail
        go_ret
        exact ⟨_, rfl, HO9.out, HB.out⟩
theorem Picked28 (A : Option Addr) (c : Nat) (l : List S53) (w : World) (hr : Kd.C k53 w A l.length l) (hc : l.length ≤ c) (hl : l.length ≤ 1000000) :
    Calls Try.prog 27 #[.slice A l.length c, .func (.func 28) #[] #[], .func (.func 29) #[] #[]] w (Made Kd.string 9 w (pick (fun x => !x.f2) l)) := by
  have HR := Aside0.mk hr; clear hr
  go_enter Try.func27, Try.ntmps27
  go_wp2_with fail
  go_loopg [7, 12] (l.length + 1) (fun kq v7 v12 w' => ∃ (j : Nat), v12 = .int .i64 (j : Int) ∧ Aside0 (kq + j = l.length + 1 ∧ j ≤ l.length) ∧ Aside0 (Kd.R Kd.string 9 w' w.heap.size (fun _ => True) v7 (pick (fun x => !x.f2) (l.take j))) ∧ Aside0 (Below w.heap.size w w'))
  case atStart => exact ⟨0, rfl, ⟨by omega, by omega⟩, ⟨Kd.R_nil _ _ _ _ _⟩, ⟨Below.refl _ _⟩⟩
  case round =>
    obtain ⟨j, rfl, HK, HO, HB⟩ := hrel
    cases gk with
    | zero => exact absurd HK.out (by omega)
    | succ k1 =>
      by_cases hj : j < l.length
      · have c14 : decide ((j : Int) < (l.length : Int)) = true := decide_eq_true (by omega)
        have p0 : (0 : Int) ≤ (j : Int) := by omega
        have q0 : (j : Int) < (l.length : Int) := by omega
        obtain ⟨ad, e7, x0, x1, x2⟩ := at_T53 HR.out (j : Int) p0 q0
        cases e7
        simp only [Int.toNat_natCast] at x0 x1 x2
        obtain ⟨o, ho⟩ : ∃ o, o = rd_T53 l (j : Int) := ⟨_, rfl⟩
        have ho2 : o = l[j] := by rw [ho]; unfold rd_T53; simp [List.getD_eq_getElem?_getD, List.getElem?_eq_getElem hj]
        rw [← ho] at x0 x1 x2
        replace x0 := (HB.out.cell (World.block_lt_of_cell? w _ x0)).trans x0
        replace x1 := (HB.out.cell (World.block_lt_of_cell? w _ x1)).trans x1
        replace x2 := (HB.out.cell (World.block_lt_of_cell? w _ x2)).trans x2
        have hp := pick_snoc (fun x => !x.f2) (l.take j) o
        rw [ho2, ← List.take_succ_eq_append_getElem hj, ← ho2] at hp
        have HP := Aside0.mk hp
        have HPL := Aside0.mk (show (pick (fun x => !x.f2) (l.take j)).length ≤ 1000000 from Nat.le_trans (pick_len _ _) (by rw [List.length_take]; omega))
        clear ho ho2 hp
        have ej : IntKind.i64.wrap ((j : Int) + 1) = ((j + 1 : Nat) : Int) := by rw [IntKind.wrap_i64]; omega
        go_upto_region 5 with fail
        obtain ⟨w6, hw6⟩ : ∃ w6, w6 = wr.alloc (.cells #[.int .i64 o.f0, .string o.f1, .bool o.f2] 42) := ⟨_, rfl⟩
        rw [← hw6]
        have hx6 : w6.heap[wr.heap.size]? = some (.cells #[.int .i64 o.f0, .string o.f1, .bool o.f2] 42 (0, 0)) := by rw [hw6]; exact Aid.heap_new wr _
        have HX6 := Aside0.mk hx6
        have HB6 := Aside0.mk (show Below w.heap.size w w6 by rw [hw6]; exact HB.out.alloc HB.out.size _)
        have HO6 := Aside0.mk (show Kd.R Kd.string 9 w6 w.heap.size (fun _ => True) u7 (pick (fun x => !x.f2) (l.take j)) by rw [hw6]; exact Kd.R_alloc HO.out _)
        obtain ⟨x, hx⟩ : ∃ x, x = wr.heap.size := ⟨_, rfl⟩
        rw [← hx] at HX6 ⊢
        have z0 : w6.cell? ⟨x, 0, none⟩ = some (.int .i64 o.f0) := by rw [cell_of_row _ _ _ _ _ _ HX6.out]; rfl
        have z1 : w6.cell? ⟨x, 1, none⟩ = some (.string o.f1) := by rw [cell_of_row _ _ _ _ _ _ HX6.out]; rfl
        have z2 : w6.cell? ⟨x, 2, none⟩ = some (.bool o.f2) := by rw [cell_of_row _ _ _ _ _ _ HX6.out]; rfl
        clear hx6 hw6 HO HB x0 x1 x2 hx
        go_wp2_with fail
        refine (IsNot o w6).mono ?_; rintro e w7 ⟨rfl, hb7⟩
        clear z0 z1 z2
        have HX7 := Aside0.mk ((hb7.block _ (blk_lt HX6.out)).trans HX6.out)
        have HB7 := Aside0.mk (Aid.bthen HB6.out hb7)
        have HO7 := Aside0.mk (Kd.R_kept HO6.out (Kept.of_below hb7 (fun _ => False)) (fun _ _ hf => hf))
        clear hb7 HX6 HB6 HO6
        by_cases hm : (!o.f2) = true
        · rw [hm]
          have HP2 := Aside0.mk (HP.out.trans (if_pos hm))
          clear hm HP
          have z0 : w7.cell? ⟨x, 0, none⟩ = some (.int .i64 o.f0) := by rw [cell_of_row _ _ _ _ _ _ HX7.out]; rfl
          have z1 : w7.cell? ⟨x, 1, none⟩ = some (.string o.f1) := by rw [cell_of_row _ _ _ _ _ _ HX7.out]; rfl
          have z2 : w7.cell? ⟨x, 2, none⟩ = some (.bool o.f2) := by rw [cell_of_row _ _ _ _ _ _ HX7.out]; rfl
          go_wp2_with fail
          refine (NameOf o w7).mono ?_; rintro e w8 ⟨rfl, hb8⟩
          clear z0 z1 z2
          have HB8 := Aside0.mk (Aid.bthen HB7.out hb8)
          have HO8 := Aside0.mk (Kd.R_kept HO7.out (Kept.of_below hb8 (fun _ => False)) (fun _ _ hf => hf))
          clear hb8 HB7 HO7 HX7
          go_wp2_with ((with_reducible refine gate_builtin (b := .append) (xs := #[.tmp 19, .tmp 23]) rfl ?_); at_builtin; refine Kd.R_append Kd.string (w0 := w) w.heap.size rfl (.tmp 19) (.tmp 23) 44 9 (.string ⟨#[]⟩) 16 rfl Try.underlying44 info9 rfl (by decide) (by omega) u7 (pick (fun x => !x.f2) (l.take j)) o.f1 [.string o.f1] (fun _ => True) (fun _ => False) rfl rfl ?aP (fun _ hk => hk.elim) ?aF ?aO ?aB ?aS ?aL ?_; (case aP => exact rfl); (case aB => exact HB8.out); (case aF => exact (fun _ _ => trivial)); (case aO => exact HO8.out); (case aS => exact (below_size HB8.out)); (case aL => have := HPL.out; omega); intro v9 w9 ho hb hg hat; rw [← HP2.out] at ho; have HB9 := Aside0.mk hb; have HO9 := Aside0.mk ho; clear ho hb hg hat)
          go_roundg k1
          case measure => omega
          case rel => exact ⟨j + 1, by first | (simp; done) | rw [ej], ⟨by have := HK.out; omega, by omega⟩, HO9, HB9⟩
        · have hm : (!o.f2) = false := by simpa using hm
          rw [hm]
          have HP2 := Aside0.mk (HP.out.trans (if_neg (by rw [show (!o.f2) = false from hm]; decide)))
          clear hm HP
          go_wp2_with fail
          have HO9 := HO7; rw [← HP2.out] at HO9
          go_roundg k1
          case measure => omega
          case rel => exact ⟨j + 1, by first | (simp; done) | rw [ej], ⟨by have := HK.out; omega, by omega⟩, HO9, HB7⟩
      · have c14 : decide ((j : Int) < (l.length : Int)) = false := decide_eq_false (by omega)
        have HO9 := HO
        rw [List.take_of_length_le (by omega)] at HO9
        clear HK HO
        go_wp2_with fail
        go_ret
        exact ⟨_, rfl, HO9.out, HB.out⟩
end Deal
end Go.Proofs.Ytohenapbgencbaa

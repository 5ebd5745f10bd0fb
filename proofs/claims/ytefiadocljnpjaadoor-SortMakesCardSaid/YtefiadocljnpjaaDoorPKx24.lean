-- Of this seat's own make: written by a program of this session's repo (wip/inject.py) over the kit's printer, with some functions given by hand.
import Derived.Test.YtefiadocljnpjaaDoorPKx0
import Derived.Test.YtefiadocljnpjaaDoorPKx18
import Derived.Test.YtefiadocljnpjaaDoorPKx22
import Derived.Test.YtefiadocljnpjaaDoorPKx23
namespace Go.Proofs.YtefiadocljnpjaaDoor.PK
open Go.RowKit Go.Proofs.YtefiadocljnpjaaDoorW.PrintWords Go.Proofs.YtefiadocljnpjaaDoorW.PrintLast Go.Proofs.YtefiadocljnpjaaDoorW.PrintMore
attribute [local go_sem] max2_int min2_int max_two min_two max_three min_three max_four min_four   -- for this text's walks alone
set_option linter.unusedVariables false
set_option linter.unusedSimpArgs false

/-! ### redressref03_Kids: function 43 -/
def redressref03_Kids.l0 : Nat → List (S48) → List (List (S48)) → Int → Int → Option ((List (List (S48))))
  | 0, _, _, _, _ => none
  | k + 1, x0, x3, x4, x5 => if 0 < (x0.length : Int) then ((redressref03_Arity.f k ((rd_T48 x0 0).f0)).bind fun t197 => (if x5 < t197 then ((redressref03_Walk.f k x0 x4).bind fun bt198 => (if 0 ≤ x4 then (if x4 ≤ bt198.1 then (if bt198.1 ≤ (x0.length : Int) then (if x3.length < 5864062014805 then (redressref03_Kids.l0 k x0 (x3 ++ [((x0.take (bt198.1 : Int).toNat).drop (x4 : Int).toNat)]) bt198.1 (wrap64 (x5 + 1))) else (none)) else (none)) else (none)) else (none))) else (some x3))) else (none)
def redressref03_Kids.f (k : Nat) (l0 : List (S48)) : Option ((List (List (S48)))) := (redressref03_Size.f k l0).bind fun t195 => (if t195 = 0 then (some ([] : List (List (S48)))) else (redressref03_Kids.l0 k l0 ([] : List (List (S48))) 1 0))
theorem redressref03_Kids.mono_l : ∀ k, (∀ y0 y1 y2 y3, LeO (redressref03_Kids.l0 k y0 y1 y2 y3) (redressref03_Kids.l0 (k + 1) y0 y1 y2 y3))
  | 0 => fun _ _ _ _ r h => by simp [redressref03_Kids.l0] at h
  | k + 1 => by
    have ih0 := redressref03_Kids.mono_l k
    · intro y0 y1 y2 y3
      unfold redressref03_Kids.l0
      repeat' first
      | (with_reducible exact ih0 _ _ _ _)
      | (with_reducible exact redressref03_Arity.mono _ _)
      | (with_reducible exact redressref03_Size.mono _ _)
      | (with_reducible exact redressref03_Walk.mono _ _ _)
      | (with_reducible exact LeO.refl _)
      | (with_reducible exact LeO.none _)
      | (with_reducible refine LeO.ite ?_ ?_)
      | (with_reducible refine LeO.bind ?_ (fun _ => ?_))
      | exact ih0 _ _ _ _
      | exact redressref03_Arity.mono _ _
      | exact redressref03_Size.mono _ _
      | exact redressref03_Walk.mono _ _ _
      | exact LeO.none _
      | refine LeO.ite ?_ ?_
      | refine LeO.bind ?_ (fun _ => ?_)
theorem redressref03_Kids.mono : ∀ a0 k, LeO (redressref03_Kids.f k a0) (redressref03_Kids.f (k + 1) a0) := by
  intro a0 k
  have ih0 := redressref03_Kids.mono_l k
  unfold redressref03_Kids.f
  repeat' first
      | (with_reducible exact ih0 _ _ _ _)
      | (with_reducible exact redressref03_Arity.mono _ _)
      | (with_reducible exact redressref03_Size.mono _ _)
      | (with_reducible exact redressref03_Walk.mono _ _ _)
      | (with_reducible exact LeO.refl _)
      | (with_reducible exact LeO.none _)
      | (with_reducible refine LeO.ite ?_ ?_)
      | (with_reducible refine LeO.bind ?_ (fun _ => ?_))
      | exact ih0 _ _ _ _
      | exact redressref03_Arity.mono _ _
      | exact redressref03_Size.mono _ _
      | exact redressref03_Walk.mono _ _ _
      | exact LeO.none _
      | refine LeO.ite ?_ ?_
      | refine LeO.bind ?_ (fun _ => ?_)
set_option maxHeartbeats 8000000 in
set_option maxRecDepth 100000 in
theorem redressref03_Kids.calls (k : Nat) (P0_ : Nat → Prop) (A0 : Option Addr) (c0 : Nat) (l0 : List (S48)) (r : List (List (S48))) (w : World) (hs0 : Kd.V k48 48 w w.heap.size (fun k_ => P0_ k_) (.slice A0 l0.length c0) l0) (h : redressref03_Kids.f k l0 = some r) :
    Calls Tryd.prog 43 #[.slice A0 l0.length c0] w fun e w' => ∃ v0_ : Value, e = .returned (v0_) ∧ Kd.N (Kd.slice 48 k48) 51 w' w.heap.size (fun k_ => (P0_ k_ ∨ w.heap.size ≤ k_)) v0_ r ∧ Below w.heap.size w w' := by
  have HO0 := Aside0.mk (show Kd.V k48 48 w w.heap.size (fun k_ => (P0_ k_ ∨ w.heap.size ≤ k_)) (.slice A0 l0.length c0) l0 from Kd.V_mono hs0 (fun k_ hk => .inl hk))
  have HB := Aside0.mk (Below.refl w.heap.size w)
  have H : ((redressref03_Size.f k l0).bind fun t195 => (if t195 = 0 then (some ([] : List (List (S48)))) else (redressref03_Kids.l0 k l0 ([] : List (List (S48))) 1 0))) = some r := h
  clear h
  replace H := Option.bind_eq_some_iff.mp H
  obtain ⟨t195, A20, H⟩ := H
  replace H : (if t195 = 0 then (some ([] : List (List (S48)))) else (redressref03_Kids.l0 k l0 ([] : List (List (S48))) 1 0)) = some r := H
  have A2 := Aside0.mk A20
  clear A20
  by_cases c3 : t195 = 0
  · rw [if_pos c3] at H
    have c3b0 : (t195 == 0) = true := beq_iff_eq.mpr c3
    have c3b1 : (t195 != 0) = false := bne_eq_false_iff_eq.mpr c3
    clear c3
    obtain rfl := Option.some.inj H
    go_enter Tryd.func43, Tryd.ntmps43
    go_wp2_with (first | ((with_reducible refine gate_callee (f := 37) rfl ?_); refine goesL_ (some 9) rfl rfl Tryd.func37 (by kernel_rfl) rfl #[.slice A0 l0.length c0] rfl (by (try simp only [List.map_toArray, List.map_cons, List.map_nil]); first | done | rfl | (simp only [List.length_drop, List.length_take]; rfl)) ?_; (with_reducible refine (redressref03_Size.calls k _ _ l0 t195 _ ?side1 ?side2 A2.out).mono ?_); (case side1 => repeat (first | exact (Kd.V_reads' HO0.out).2.2 | (with_reducible refine Kd.C_alloc ?_ _) | (with_reducible refine Kd.C_drewN ?_ _) | (with_reducible refine Kd.C_drew ?_))); (case side2 => exact (Kd.V_reads' HO0.out).2.1); rintro e w' ⟨rfl, ⟨nd, rfl⟩⟩; refine ⟨_, rfl, ?_⟩))
    go_ret
    exact ⟨_, by first | rfl | (simp [errW_none, errW_some] <;> rfl) | (simp [*, errW_none, errW_some] <;> rfl), by first | exact Kd.S_nil _ _ _ _ _ | exact Kd.N_nil _ _ _ _ _ | exact Kd.V_nil _ _ _ _ _ | exact Kd.Q_nil _ _ _ _ _ | exact Kd.R_nil _ _ _ _ _, by repeat (first | (with_reducible first | exact HB.out | apply below_alloc | apply pw_below_drewN | apply below_drew1) | exact HB.out)⟩
  · rw [if_neg c3] at H
    have c3b0 : (t195 == 0) = false := beq_eq_false_iff_ne.mpr c3
    have c3b1 : (t195 != 0) = true := bne_iff_ne.mpr c3
    have H' := Aside0.mk H
    clear H
    go_enter Tryd.func43, Tryd.ntmps43
    go_wp2_with (first | ((with_reducible refine gate_callee (f := 37) rfl ?_); refine goesL_ (some 9) rfl rfl Tryd.func37 (by kernel_rfl) rfl #[.slice A0 l0.length c0] rfl (by (try simp only [List.map_toArray, List.map_cons, List.map_nil]); first | done | rfl | (simp only [List.length_drop, List.length_take]; rfl)) ?_; (with_reducible refine (redressref03_Size.calls k _ _ l0 t195 _ ?side1 ?side2 A2.out).mono ?_); (case side1 => repeat (first | exact (Kd.V_reads' HO0.out).2.2 | (with_reducible refine Kd.C_alloc ?_ _) | (with_reducible refine Kd.C_drewN ?_ _) | (with_reducible refine Kd.C_drew ?_))); (case side2 => exact (Kd.V_reads' HO0.out).2.1); rintro e w' ⟨rfl, ⟨nd, rfl⟩⟩; refine ⟨_, rfl, ?_⟩))
    go_loopg [3, 4, 5] k (fun kq v3 v4 v5 w' => ∃ (x3_1 : List (List (S48))) (x4_1 : Int) (x5_1 : Int), v4 = .int .i64 x4_1 ∧ v5 = .int .i64 x5_1 ∧ Aside0 (redressref03_Kids.l0 kq l0 x3_1 x4_1 x5_1 = some r) ∧ Aside0 (kq ≤ k) ∧ Aside0 (Kd.V k48 48 w' w.heap.size (fun k_ => (P0_ k_ ∨ w.heap.size ≤ k_) ∧ some k_ ≠ (v3 : Value).ownBlock) (.slice A0 l0.length c0) l0) ∧ Aside0 (Kd.N (Kd.slice 48 k48) 51 w' w.heap.size (fun k_ => (P0_ k_ ∨ w.heap.size ≤ k_)) v3 x3_1) ∧ Aside0 (Below w.heap.size w w'))
    case atStart => exact ⟨(([] : List (List (S48)))), (1), (0), (by first | rfl | (simp; done) | (simp [*]; done)), (by first | rfl | (simp; done) | (simp [*]; done)), H', ⟨Nat.le_refl _⟩, ⟨by (with_reducible repeat (first | apply Kd.V_alloc | apply Kd.V_drewN | apply Kd.V_drew)); exact Kd.V_mono HO0.out (fun _ hk => ⟨hk, (by simp [Value.ownBlock])⟩)⟩, ⟨by first | exact Kd.S_nil _ _ _ _ _ | exact Kd.N_nil _ _ _ _ _ | exact Kd.V_nil _ _ _ _ _ | exact Kd.Q_nil _ _ _ _ _ | exact Kd.R_nil _ _ _ _ _⟩, ⟨by repeat (first | (with_reducible first | exact HB.out | apply below_alloc | apply pw_below_drewN | apply below_drew1) | exact HB.out)⟩⟩
    case round =>
      clear H'
      try clear p2
      try clear c3
      try clear c3b0
      try clear c3b1
      obtain ⟨x3_1, x4_1, x5_1, rfl, rfl, HA, HK1, HO_0, HO_3, HB⟩ := hrel
      cases gk with
      | zero => exact absurd HA.out (by simp [redressref03_Kids.l0])
      | succ k1 =>
        have H := HA.out
        clear HA
        simp only [redressref03_Kids.l0] at H
        by_cases c4 : 0 < (l0.length : Int)
        · rw [if_pos c4] at H
          have c4b0 : decide (0 < (l0.length : Int)) = true := decide_eq_true c4
          have c4b1 : decide (0 < l0.length) = true := decide_eq_true (by omega)
          clear c4
          replace H := Option.bind_eq_some_iff.mp H
          obtain ⟨t197, A50, H⟩ := H
          replace H : (if x5_1 < t197 then ((redressref03_Walk.f k1 l0 x4_1).bind fun bt198 => (if 0 ≤ x4_1 then (if x4_1 ≤ bt198.1 then (if bt198.1 ≤ (l0.length : Int) then (if x3_1.length < 5864062014805 then (redressref03_Kids.l0 k1 l0 (x3_1 ++ [((l0.take (bt198.1 : Int).toNat).drop (x4_1 : Int).toNat)]) bt198.1 (wrap64 (x5_1 + 1))) else (none)) else (none)) else (none)) else (none))) else (some x3_1)) = some r := H
          have A5 := Aside0.mk A50
          clear A50
          by_cases c6 : x5_1 < t197
          · rw [if_pos c6] at H
            have c6b0 : decide (x5_1 < t197) = true := decide_eq_true c6
            clear c6
            replace H := Option.bind_eq_some_iff.mp H
            obtain ⟨⟨t198, t199⟩, A70, H⟩ := H
            replace H : (if 0 ≤ x4_1 then (if x4_1 ≤ t198 then (if t198 ≤ (l0.length : Int) then (if x3_1.length < 5864062014805 then (redressref03_Kids.l0 k1 l0 (x3_1 ++ [((l0.take (t198 : Int).toNat).drop (x4_1 : Int).toNat)]) t198 (wrap64 (x5_1 + 1))) else (none)) else (none)) else (none)) else (none)) = some r := H
            have A7 := Aside0.mk A70
            clear A70
            by_cases c8 : 0 ≤ x4_1
            · rw [if_pos c8] at H
              have c8b0 := eq_true c8
              have c8b1 : decide (0 ≤ x4_1) = true := decide_eq_true c8
              clear c8
              by_cases c9 : x4_1 ≤ t198
              · rw [if_pos c9] at H
                have c9b0 := eq_true c9
                have c9b1 : decide (x4_1 ≤ t198) = true := decide_eq_true c9
                clear c9
                by_cases c10 : t198 ≤ (l0.length : Int)
                · rw [if_pos c10] at H
                  have c10b0 := eq_true c10
                  have c10b1 : decide (t198 ≤ (l0.length : Int)) = true := decide_eq_true c10
                  clear c10
                  obtain ⟨y200, hy200⟩ : ∃ y_ : List (S48), y_ = ((l0.take (t198 : Int).toNat).drop (x4_1 : Int).toNat) := ⟨_, rfl⟩
                  replace H : (if x3_1.length < 5864062014805 then (redressref03_Kids.l0 k1 l0 (x3_1 ++ [y200]) t198 (wrap64 (x5_1 + 1))) else (none)) = some r := by first | (rw [hy200]; with_reducible exact H) | (have H2_ := (Option.bind_some _ _).symm.trans H; rw [hy200]; with_reducible exact H2_) | (have H2_ := (Option.bind_some _ _).symm.trans H; with_reducible exact H2_) | with_reducible exact H | (rw [hy200]; exact H) | exact H
                  have Ny200 := Aside0.mk hy200
                  clear hy200
                  by_cases c11 : x3_1.length < 5864062014805
                  · rw [if_pos c11] at H
                    have LMc11 := Aside0.mk c11
                    clear c11
                    obtain ⟨y205, hy205⟩ : ∃ y_ : List (List (S48)), y_ = (x3_1 ++ [y200]) := ⟨_, rfl⟩
                    replace H : (redressref03_Kids.l0 k1 l0 y205 t198 (wrap64 (x5_1 + 1))) = some r := by first | (rw [hy205]; with_reducible exact H) | (have H2_ := (Option.bind_some _ _).symm.trans H; rw [hy205]; with_reducible exact H2_) | (have H2_ := (Option.bind_some _ _).symm.trans H; with_reducible exact H2_) | with_reducible exact H | (rw [hy205]; exact H) | exact H
                    have Ny205 := Aside0.mk hy205
                    clear hy205
                    have H' := Aside0.mk H
                    clear H
                    have p196 : 0 ≤ (0 : Int) := (by omega)
                    have q196 : 0 < (l0.length : Int) := of_decide_eq_true (by first | (with_reducible assumption) | assumption)
                    obtain ⟨ad196, e196, hx196_0, hx196_1, hx196_2⟩ := at_T48 (Kd.V_reads' HO_0.out).2.2 0 p196 q196
                    cases e196
                    have qi196 : (0 < l0.length) = True := eq_true (by omega)
                    (try rw [show ((0 : Int)).toNat = 0 from rfl] at hx196_0)
                    (try rw [show 0 * 3 = 0 from rfl] at hx196_0)
                    (try rw [Addr.add_zero'] at hx196_0)
                    (try rw [show ((0 : Int)).toNat = 0 from rfl] at hx196_1)
                    (try rw [show 0 * 3 = 0 from rfl] at hx196_1)
                    (try rw [Addr.add_zero'] at hx196_1)
                    (try rw [show ((0 : Int)).toNat = 0 from rfl] at hx196_2)
                    (try rw [show 0 * 3 = 0 from rfl] at hx196_2)
                    (try rw [Addr.add_zero'] at hx196_2)
                    replace p196 := eq_true p196
                    replace q196 := eq_true q196
                    go_wp2_with (first | ((with_reducible refine gate_callee (f := 32) rfl ?_); refine goesL_ (some 16) rfl rfl Tryd.func32 (by kernel_rfl) rfl #[.int .i64 ((rd_T48 l0 0).f0)] rfl (by (try simp only [List.map_toArray, List.map_cons, List.map_nil]); first | done | rfl | (simp only [List.length_drop, List.length_take]; rfl)) ?_; (with_reducible refine (redressref03_Arity.calls k1 ((rd_T48 l0 0).f0) t197 _ A5.out).mono ?_); rintro e w8 ⟨rfl, ⟨nd, ew8⟩⟩; refine ⟨_, rfl, ?_⟩; have m0_ := Aside0.mk (show Kd.V k48 48 w8 w.heap.size (fun k_ => (P0_ k_ ∨ w.heap.size ≤ k_) ∧ some k_ ≠ (u3 : Value).ownBlock) (.slice (some ad196) l0.length c0) l0 from (by rw [ew8]; exact Kd.V_drewN HO_0.out _)); have m1_ := Aside0.mk (show Kd.N (Kd.slice 48 k48) 51 w8 w.heap.size (fun k_ => (P0_ k_ ∨ w.heap.size ≤ k_)) u3 x3_1 from (by rw [ew8]; exact Kd.N_drewN HO_3.out _)); have m2_ := Aside0.mk (show Below w.heap.size w w8 from (by rw [ew8]; exact pw_below_drewN HB.out _)); clear HO_0 HO_3 HB ew8; have HO_0 := m0_; have HO_3 := m1_; have HB := m2_; clear m0_ m1_ m2_) | ((with_reducible refine gate_callee (f := 72) rfl ?_); refine goesL_ (some 23) rfl rfl Tryd.func72 (by kernel_rfl) rfl #[.slice (some ad196) l0.length c0, .int .i64 x4_1] rfl (by (try simp only [List.map_toArray, List.map_cons, List.map_nil]); first | done | rfl | (simp only [List.length_drop, List.length_take]; rfl)) ?_; (with_reducible refine (redressref03_Walk.calls k1 _ _ l0 x4_1 t198 t199 _ ?side1 ?side2 A7.out).mono ?_); (case side1 => repeat (first | exact (Kd.V_reads' HO_0.out).2.2 | (with_reducible refine Kd.C_alloc ?_ _) | (with_reducible refine Kd.C_drewN ?_ _) | (with_reducible refine Kd.C_drew ?_))); (case side2 => exact (Kd.V_reads' HO_0.out).2.1); rintro e w9 ⟨rfl, ⟨nd, ew9⟩⟩; refine ⟨_, rfl, ?_⟩; have m0_ := Aside0.mk (show Kd.V k48 48 w9 w.heap.size (fun k_ => (P0_ k_ ∨ w.heap.size ≤ k_) ∧ some k_ ≠ (u3 : Value).ownBlock) (.slice (some ad196) l0.length c0) l0 from (by rw [ew9]; exact Kd.V_drewN HO_0.out _)); have m1_ := Aside0.mk (show Kd.N (Kd.slice 48 k48) 51 w9 w.heap.size (fun k_ => (P0_ k_ ∨ w.heap.size ≤ k_)) u3 x3_1 from (by rw [ew9]; exact Kd.N_drewN HO_3.out _)); have m2_ := Aside0.mk (show Below w.heap.size w w9 from (by rw [ew9]; exact pw_below_drewN HB.out _)); clear HO_0 HO_3 HB ew9; have HO_0 := m0_; have HO_3 := m1_; have HB := m2_; clear m0_ m1_ m2_; have q12 : (t198 : Int) ≤ ((l0.length : Int) : Int) := of_decide_eq_true (by first | (with_reducible assumption) | assumption); obtain ⟨i012, hi012, _, hsz12, _⟩ := info_parts info48; have hroom12 : l0.length ≤ c0 := (Kd.V_reads' HO_0.out).2.1; have hC12 : Kd.F k48 w9 _ (some ad196) l0.length l0 := (Kd.V_at (base := w.heap.size) HO_0.out).2.2; have ql12 : (x4_1 : Int) ≤ (t198 : Int) := of_decide_eq_true (by first | (with_reducible assumption) | assumption); have q012 : (0 : Int) ≤ (x4_1 : Int) := of_decide_eq_true (by first | (with_reducible assumption) | assumption); have hcut12 := cut_mid (P := Tryd.prog) 51 48 .i64 .i64 Tryd.underlying51 hi012 3 hsz12 (some ad196) l0.length c0 x4_1 t198 q012 ql12 q12 hroom12; have hr12 := Kd.F_mid (lo := (x4_1 : Int).toNat) (hi := (t198 : Int).toNat) (c := c0) hC12 (by omega) (by omega) hroom12; obtain ⟨A12, hA12⟩ : ∃ A1, A1 = (if c0 = (x4_1 : Int).toNat then (some ad196) else ((some ad196) : Option Addr).map (·.add ((x4_1 : Int).toNat * 3))) := ⟨_, rfl⟩; obtain ⟨c12, hc12⟩ : ∃ c1, c1 = c0 - (x4_1 : Int).toNat := ⟨_, rfl⟩; have hy12 : y200.length = (t198 : Int).toNat - (x4_1 : Int).toNat := (by rw [Ny200.out, List.length_drop, List.length_take] <;> omega); rw [show ((l0).take (t198 : Int).toNat).drop (x4_1 : Int).toNat = y200 from Ny200.out.symm] at hr12; replace hr12 : Kd.F k48 w9 _ A12 y200.length y200 := (by rw [hA12]; exact hr12); rw [← hy12, ← hA12, ← hc12] at hcut12; have HO204 := Aside0.mk (show Kd.V k48 48 w9 w.heap.size (fun k_ => (P0_ k_ ∨ w.heap.size ≤ k_) ∧ some k_ ≠ (u3 : Value).ownBlock) (.slice A12 y200.length c12) y200 from Kd.V_mk (by rw [hy12, hc12]; exact Nat.sub_le_sub_right (Nat.le_trans (by omega) hroom12) _) hr12); have HC204 := Aside0.mk (show y200.length ≤ c12 from by rw [hy12, hc12]; exact Nat.sub_le_sub_right (Nat.le_trans (by omega) hroom12) _); clear hr12 hC12 hroom12 hi012 hsz12 hc12; have KY12 := Aside0.mk hy12; have KA12 := Aside0.mk hA12; clear hy12 hA12; replace q12 := eq_true q12) | ((with_reducible refine gate_builtin (b := .append) (xs := #[.tmp 26, .tmp 31]) rfl ?_); at_builtin; refine Kd.N_append (Kd.slice 48 k48) (w0 := w) w.heap.size rfl (.tmp 26) (.tmp 31) 54 51 (.slice none 0 0) 24 rfl Tryd.underlying54 info51 rfl (by decide) (by omega) u3 x3_1 y200 [.slice A12 y200.length c12] (fun k_ => (P0_ k_ ∨ w.heap.size ≤ k_)) (fun k_ => ((fun k_ => (P0_ k_ ∨ w.heap.size ≤ k_))) k_ ∧ some k_ ≠ (u3 : Value).ownBlock) rfl rfl ?aP (fun _ hk => hk) ?aF ?aO ?aB ?aS ?aL ?_; (case aP => exact (Kd.FK_slice_mk (Kd.V_reads' (Kd.V_mono (ok' := (fun k_ => ((fun k_ => (P0_ k_ ∨ w.heap.size ≤ k_))) k_ ∧ some k_ ≠ (u3 : Value).ownBlock)) (HO204.out) (fun k_ hk => ⟨hk.1, hk.2⟩))).2.1 (Kd.V_F (Kd.V_mono (ok' := (fun k_ => ((fun k_ => (P0_ k_ ∨ w.heap.size ≤ k_))) k_ ∧ some k_ ≠ (u3 : Value).ownBlock)) (HO204.out) (fun k_ hk => ⟨hk.1, hk.2⟩))))); (case aB => exact (by repeat (first | (with_reducible first | exact HB.out | apply below_alloc | apply pw_below_drewN | apply below_drew1) | exact HB.out))); (case aF => exact (fun k_ hk => (.inr (Nat.le_trans (below_size (by repeat (first | (with_reducible first | exact HB.out | apply below_alloc | apply pw_below_drewN | apply below_drew1) | exact HB.out))) hk)))); (case aO => exact (by (with_reducible repeat (first | apply Kd.N_alloc | apply Kd.N_drewN | apply Kd.N_drew)); exact HO_3.out)); (case aS => exact (below_size (by repeat (first | (with_reducible first | exact HB.out | apply below_alloc | apply pw_below_drewN | apply below_drew1) | exact HB.out)))); (case aL => have := LMc11.out; omega); intro v206 w13 ho hb hg hat; rw [← Ny205.out] at ho; have n0_ := Aside0.mk (Kd.V_afterv (ok := (fun k_ => (P0_ k_ ∨ w.heap.size ≤ k_))) (by (with_reducible repeat (first | apply Kd.V_alloc | apply Kd.V_drewN | apply Kd.V_drew)); exact HO_0.out) hg hat); have n1_ := Aside0.mk (Kd.V_afterv (ok := (fun k_ => (P0_ k_ ∨ w.heap.size ≤ k_))) (by (with_reducible repeat (first | apply Kd.V_alloc | apply Kd.V_drewN | apply Kd.V_drew)); exact HO204.out) hg hat); have n2_ := Aside0.mk (hb); have n3_ := Aside0.mk (ho); clear HO_0; clear HO204; clear HB; clear HO_3; have HO_0 := n0_; have HO204 := n1_; have HB := n2_; have HO207 := n3_; clear n0_ n1_ n2_ n3_; clear ho hb hg hat))
                    go_roundg k1
                    case measure => have := HK1.out; omega
                    case rel => exact ⟨(y205), (t198), (wrap64 (x5_1 + 1)), (by first | rfl | (simp; done) | (simp [*]; done)), (by first | rfl | (simp; done) | (simp [*]; done)), H', ⟨by have := HK1.out; omega⟩, ⟨by (with_reducible repeat (first | apply Kd.V_alloc | apply Kd.V_drewN | apply Kd.V_drew)); exact HO_0.out⟩, ⟨by (with_reducible repeat (first | apply Kd.N_alloc | apply Kd.N_drewN | apply Kd.N_drew)); exact HO207.out⟩, ⟨by repeat (first | (with_reducible first | exact HB.out | apply below_alloc | apply pw_below_drewN | apply below_drew1) | exact HB.out)⟩⟩
                  · rw [if_neg c11] at H
                    exact absurd H (by simp)
                · rw [if_neg c10] at H
                  exact absurd H (by simp)
              · rw [if_neg c9] at H
                exact absurd H (by simp)
            · rw [if_neg c8] at H
              exact absurd H (by simp)
          · rw [if_neg c6] at H
            have c6b0 : decide (x5_1 < t197) = false := decide_eq_false c6
            clear c6
            obtain rfl := Option.some.inj H
            have p196 : 0 ≤ (0 : Int) := (by omega)
            have q196 : 0 < (l0.length : Int) := of_decide_eq_true (by first | (with_reducible assumption) | assumption)
            obtain ⟨ad196, e196, hx196_0, hx196_1, hx196_2⟩ := at_T48 (Kd.V_reads' HO_0.out).2.2 0 p196 q196
            cases e196
            have qi196 : (0 < l0.length) = True := eq_true (by omega)
            (try rw [show ((0 : Int)).toNat = 0 from rfl] at hx196_0)
            (try rw [show 0 * 3 = 0 from rfl] at hx196_0)
            (try rw [Addr.add_zero'] at hx196_0)
            (try rw [show ((0 : Int)).toNat = 0 from rfl] at hx196_1)
            (try rw [show 0 * 3 = 0 from rfl] at hx196_1)
            (try rw [Addr.add_zero'] at hx196_1)
            (try rw [show ((0 : Int)).toNat = 0 from rfl] at hx196_2)
            (try rw [show 0 * 3 = 0 from rfl] at hx196_2)
            (try rw [Addr.add_zero'] at hx196_2)
            replace p196 := eq_true p196
            replace q196 := eq_true q196
            go_wp2_with (first | ((with_reducible refine gate_callee (f := 32) rfl ?_); refine goesL_ (some 16) rfl rfl Tryd.func32 (by kernel_rfl) rfl #[.int .i64 ((rd_T48 l0 0).f0)] rfl (by (try simp only [List.map_toArray, List.map_cons, List.map_nil]); first | done | rfl | (simp only [List.length_drop, List.length_take]; rfl)) ?_; (with_reducible refine (redressref03_Arity.calls k1 ((rd_T48 l0 0).f0) t197 _ A5.out).mono ?_); rintro e w' ⟨rfl, ⟨nd, rfl⟩⟩; refine ⟨_, rfl, ?_⟩))
            go_ret
            exact ⟨_, by first | rfl | (simp [errW_none, errW_some] <;> rfl) | (simp [*, errW_none, errW_some] <;> rfl), by (with_reducible repeat (first | apply Kd.N_alloc | apply Kd.N_drewN | apply Kd.N_drew)); exact HO_3.out, by repeat (first | (with_reducible first | exact HB.out | apply below_alloc | apply pw_below_drewN | apply below_drew1) | exact HB.out)⟩
        · rw [if_neg c4] at H
          exact absurd H (by simp)

end Go.Proofs.YtefiadocljnpjaaDoor.PK

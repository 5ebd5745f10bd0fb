/- The law SortMakes (printed by wip/row/genK.py). -/
import Derived.Test.YtefiadocljnpjaaDoorXD
namespace Go.Proofs.YtefiadocljnpjaaDoor.Row
open Go.Proofs.Tree Go.RowKit Go.Proofs.YtefiadocljnpjaaDoorW.PrintWords Go.Proofs.YtefiadocljnpjaaDoorW.PrintLast Go.Proofs.YtefiadocljnpjaaDoorW.PrintMore Go.Proofs.YtefiadocljnpjaaDoor.PK
set_option linter.unusedVariables false
set_option linter.unusedSimpArgs false
set_option maxHeartbeats 4000000
set_option maxRecDepth 100000
/-- Two rows that came in. -/
structure InB (w W : World) (A1 : Option Addr) (a : List S48) (A2 : Option Addr) (b : List S48) : Prop where
  c1 : Kd.C k48 W A1 a.length a
  c2 : Kd.C k48 W A2 b.length b
  l : Laid W
  b : Below w.heap.size w W
theorem InB.below {w W W' : World} {A1 A2 : Option Addr} {a b : List S48} (h : InB w W A1 a A2 b) (hb : Below W.heap.size W W') : InB w W' A1 a A2 b := ⟨Kd.C_below h.c1 hb, Kd.C_below h.c2 hb, h.l.below hb, Aid_bthen h.b hb⟩
section
variable {w W : World} {A1 A2 : Option Addr} {a b : List S48} {c1 c2 : Nat}
theorem f50a (r : Bool) (hc : a.length ≤ c1) (hr : few4 a = r) (h : InB w W A1 a A2 b) : Calls Tryd.prog 50 #[.slice A1 a.length c1] W fun e W' => e = .returned (.bool r) ∧ InB w W' A1 a A2 b := by
  subst hr
  exact (Few4 A1 c1 a W h.c1 hc).mono fun e W' ⟨he, hb⟩ => ⟨he, h.below hb⟩
theorem f50b (r : Bool) (hc : b.length ≤ c2) (hr : few4 b = r) (h : InB w W A1 a A2 b) : Calls Tryd.prog 50 #[.slice A2 b.length c2] W fun e W' => e = .returned (.bool r) ∧ InB w W' A1 a A2 b := by
  subst hr
  exact (Few4 A2 c2 b W h.c2 hc).mono fun e W' ⟨he, hb⟩ => ⟨he, h.below hb⟩
theorem f51 (h : InB w W A1 a A2 b) : Calls Tryd.prog 51 #[] W fun e W' => e = .returned (.bool true) ∧ InB w W' A1 a A2 b :=
  (Alive4 W h.l).mono fun e W' ⟨he, hb⟩ => ⟨he, h.below hb⟩
theorem f52a (v : Int) (hc : a.length ≤ c1) (hv : ofV a = v) (h : InB w W A1 a A2 b) : Calls Tryd.prog 52 #[.slice A1 a.length c1] W fun e W' => e = .returned (.int .i64 v) ∧ InB w W' A1 a A2 b := by
  subst hv
  exact (Of A1 c1 a W h.l h.c1 hc).mono fun e W' ⟨he, hb⟩ => ⟨he, h.below hb⟩
theorem f52b (v : Int) (hc : b.length ≤ c2) (hv : ofV b = v) (h : InB w W A1 a A2 b) : Calls Tryd.prog 52 #[.slice A2 b.length c2] W fun e W' => e = .returned (.int .i64 v) ∧ InB w W' A1 a A2 b := by
  subst hv
  exact (Of A2 c2 b W h.l h.c2 hc).mono fun e W' ⟨he, hb⟩ => ⟨he, h.below hb⟩
theorem Make2 (n : S48) (q : Nat) (ha : a.length ≤ 250) (hb : b.length ≤ 250) (hq : Kd.C (Kd.slice 48 k48) W (some ⟨q, 0, none⟩) 2 [a, b]) : Calls Tryd.prog 45 #[.agg #[.int .i64 n.f0, .string n.f1, .int .i64 n.f2], .slice (some ⟨q, 0, none⟩) 2 2] W fun e W' => ∃ A c, e = .returned (.slice A (n :: (a ++ b)).length c) ∧ (n :: (a ++ b)).length ≤ c ∧ Kd.C k48 W' A (n :: (a ++ b)).length (n :: (a ++ b)) ∧ Below W.heap.size W W' := by
  refine (Make n (some ⟨q, 0, none⟩) 2 [a, b] W hq (Nat.le_refl _) (by unfold tot; simp; omega)).mono ?_
  rintro e W' ⟨v, rfl, hR, hB⟩
  have e1 : n :: [a, b].flatten = n :: (a ++ b) := by simp
  rw [e1] at hR
  obtain ⟨A, c, rfl⟩ := Kd.R_slice hR
  have hr := Kd.R_reads' hR
  exact ⟨A, c, rfl, hr.2.1, hr.2.2, hB⟩
theorem int_cell {g : Nat} {l : List Int} {n : Nat} (h : Kd.C (Kd.int .i64) W (some ⟨g, 0, none⟩) n l) (j : Nat) (p : Int) (hj : l[j]? = some p) (hn : 0 < n) : W.cell? ⟨g, j, none⟩ = some (.int .i64 p) := by
  obtain ⟨ad, e, hc⟩ := h.2.2 hn
  injection e with e
  subst e
  obtain ⟨c, hs, hr, hcell⟩ := hc j p hj
  have hr' : c = [.int .i64 p] := hr
  subst hr'
  have := hcell 0 _ rfl
  rw [add_plain] at this
  rw [show j * (Kd.int .i64).sz + 0 = j from Nat.mul_one j] at this
  exact this
end
theorem rtK5 : rt (nd 5) = true := by decide +kernel
theorem rtK6 : rt (nd 6) = true := by decide +kernel
theorem rtK7 : rt (nd 7) = true := by decide +kernel
theorem rtK8 : rt (nd 8) = true := by decide +kernel
theorem rtK10 : rt (nd 10) = true := by decide +kernel
theorem SortMakes (A1 : Option Addr) (c1 : Nat) (a : List S48) (A2 : Option Addr) (c2 : Nat) (b : List S48) (w : World) (hL : Laid w) (hC1 : Kd.C k48 w A1 a.length a) (hc1 : a.length ≤ c1) (hC2 : Kd.C k48 w A2 b.length b) (hc2 : b.length ≤ c2) :
    Calls Tryd.prog 19 #[.slice A1 a.length c1, .slice A2 b.length c2] w fun e w' => e = .returned (.bool true) ∧ Below w.heap.size w w' := by
  have h0 : InB w w A1 a A2 b := ⟨hC1, hC2, hL, Below.refl _ _⟩
  clear hL hC1 hC2
  by_cases hf : few4 a = true
  · have HF := Aside0.mk hf
    have la : a.length ≤ 120 := by have h := hf; unfold few4 at h; simp only [Bool.and_eq_true, decide_eq_true_eq] at h; exact h.1
    clear hf
    by_cases hg : few4 b = true
    · have HG := Aside0.mk hg
      have lb : b.length ≤ 120 := by have h := hg; unfold few4 at h; simp only [Bool.and_eq_true, decide_eq_true_eq] at h; exact h.1
      clear hg
      have HLL := Aside0.mk (And.intro la lb)
      by_cases hs : a.length + b.length < 200
      · have HS := Aside0.mk hs
        have kw : wrap64 ((a.length : Int) + (b.length : Int)) = (a.length : Int) + (b.length : Int) := w64 _ (by omega) (by omega)
        have k1 : decide ((a.length : Int) + (b.length : Int) ≥ 200) = false := decide_eq_false (by omega)
        have k2 : decide (200 ≤ a.length + b.length) = false := decide_eq_false (by omega)
        have k3 : decide ((200 : Int) ≤ (a.length : Int) + (b.length : Int)) = false := decide_eq_false (by omega)
        clear hs la lb
        rcases five _ (ofV_in a) with hv | hv | hv | hv | hv
        · have HVA := Aside0.mk hv
          clear hv
          obtain ⟨y, hy⟩ : ∃ y, y = ofV b := ⟨_, rfl⟩
          have HVB := Aside0.mk hy.symm
          clear hy
          go_enter Tryd.func19, Tryd.ntmps19
          go_wp2_with fail
          refine (f50a true hc1 HF.out h0).mono ?_; rintro e w1 ⟨rfl, h1⟩
          clear h0
          go_wp2_with fail
          refine (f50b true hc2 HG.out h1).mono ?_; rintro e w2 ⟨rfl, h2⟩
          clear h1
          go_wp2_with fail
          refine (f52a 0 hc1 HVA.out h2).mono ?_; rintro e w3 ⟨rfl, h3⟩
          clear h2
          go_wp2_with fail
          refine (f52b y hc2 HVB.out h3).mono ?_; rintro e w4 ⟨rfl, h4⟩
          clear h3
          go_wp2_with fail
          refine (f51 h4).mono ?_; rintro e w5 ⟨rfl, h5⟩
          clear h4
          go_wp2_with fail
          (try rw [Exit.noGoto_ret])
          go_ret
          exact ⟨rfl, h5.b⟩
        · have HVA := Aside0.mk hv
          clear hv
          rcases five _ (ofV_in b) with hv | hv | hv | hv | hv
          · have HVB := Aside0.mk hv
            clear hv
            go_enter Tryd.func19, Tryd.ntmps19
            go_wp2_with fail
            refine (f50a true hc1 HF.out h0).mono ?_; rintro e w1 ⟨rfl, h1⟩
            clear h0
            go_wp2_with fail
            refine (f50b true hc2 HG.out h1).mono ?_; rintro e w2 ⟨rfl, h2⟩
            clear h1
            go_wp2_with fail
            refine (f52a 1 hc1 HVA.out h2).mono ?_; rintro e w3 ⟨rfl, h3⟩
            clear h2
            go_wp2_with fail
            refine (f52b 0 hc2 HVB.out h3).mono ?_; rintro e w4 ⟨rfl, h4⟩
            clear h3
            go_wp2_with fail
            refine (f51 h4).mono ?_; rintro e w5 ⟨rfl, h5⟩
            clear h4
            go_wp2_with fail
            (try rw [Exit.noGoto_ret])
            go_ret
            exact ⟨rfl, h5.b⟩
          · have HVB := Aside0.mk hv
            clear hv
            go_enter Tryd.func19, Tryd.ntmps19
            go_wp2_with fail
            refine (f50a true hc1 HF.out h0).mono ?_; rintro e w1 ⟨rfl, h1⟩
            clear h0
            go_wp2_with fail
            refine (f50b true hc2 HG.out h1).mono ?_; rintro e w2 ⟨rfl, h2⟩
            clear h1
            go_wp2_with fail
            refine (f52a 1 hc1 HVA.out h2).mono ?_; rintro e w3 ⟨rfl, h3⟩
            clear h2
            go_wp2_with fail
            refine (f52b 1 hc2 HVB.out h3).mono ?_; rintro e w4 ⟨rfl, h4⟩
            clear h3
            go_wp2_with fail
            obtain ⟨g, hg⟩ : ∃ g, g = w4.heap.size := ⟨_, rfl⟩
            have h5 : InB w (w4.alloc (.cells #[.int .i64 5, .int .i64 6, .int .i64 7, .int .i64 8, .int .i64 10] 3)) A1 a A2 b := h4.below (al w4 _)
            have hI := ints_C w4 [5, 6, 7, 8, 10] 5 rfl (by decide) #[.int .i64 5, .int .i64 6, .int .i64 7, .int .i64 8, .int .i64 10] rfl
            obtain ⟨w5, hw5⟩ : ∃ w5, w5 = w4.alloc (.cells #[.int .i64 5, .int .i64 6, .int .i64 7, .int .i64 8, .int .i64 10] 3) := ⟨_, rfl⟩
            rw [← hw5] at h5 hI ⊢
            rw [← hg] at hI ⊢
            have H5 := Aside0.mk (And.intro h5 hI)
            clear h4 h5 hI hg hw5
            go_loopg [8, 9, 48] 6 (fun kq v8 v9 v48 W => ∃ (j : Nat), v48 = .int .i64 (j : Int) ∧ Aside0 (kq + j = 6 ∧ j ≤ 5) ∧ Aside0 (InB w W A1 a A2 b ∧ Kd.C (Kd.int .i64) W (some ⟨g, 0, none⟩) 5 [5, 6, 7, 8, 10]))
            case atStart => exact ⟨0, rfl, ⟨by omega, by omega⟩, H5⟩
            case round =>
              clear H5
              obtain ⟨j, hv48, HJ, HI⟩ := hrel
              cases gk with
              | zero => exact absurd HJ.out (by omega)
              | succ k1 =>
                have hj : j = 0 ∨ j = 1 ∨ j = 2 ∨ j = 3 ∨ j = 4 ∨ j = 5 := by have := HJ.out; omega
                rcases hj with rfl | rfl | rfl | rfl | rfl | rfl
                · have hv48' : _ = Value.int .i64 0 := hv48
                  clear hv48
                  subst hv48'
                  have y0 := int_cell HI.out.2 0 5 rfl (by decide)
                  have HM := Aside0.mk (show ofV (nd 5 :: (a ++ b)) = 1 by rw [of_made 5 rfl rtK5 a b (of_pos a (by rw [HVA.out]; decide)) (of_pos b (by rw [HVB.out]; decide)) HS.out, HVA.out, HVB.out]; decide +kernel)
                  obtain ⟨m, hm⟩ : ∃ m, m = nd 5 :: (a ++ b) := ⟨_, rfl⟩
                  rw [← hm] at HM
                  have HE := Aside0.mk hm.symm
                  clear hm
                  go_wp2_with fail
                  have hq := C_pair wr HI.out.1.c1 hc1 HI.out.1.c2 hc2
                  have h6 : InB w _ A1 a A2 b ∧ Kd.C (Kd.int .i64) _ (some ⟨g, 0, none⟩) 5 [5, 6, 7, 8, 10] := And.intro (HI.out.1.below (al wr (.cells #[.slice A1 a.length c1, .slice A2 b.length c2] 51))) (Kd.C_below HI.out.2 (al wr (.cells #[.slice A1 a.length c1, .slice A2 b.length c2] 51)))
                  refine (Make2 (nd 5) _ (by have := HLL.out; omega) (by have := HLL.out; omega) hq).mono ?_; rintro e w6 ⟨AM, cM, rfl, hcM, hCM, hb⟩
                  rw [HE.out] at hcM hCM ⊢
                  have h7 := And.intro (h6.1.below hb) (Kd.C_below h6.2 hb)
                  clear hq h6 hb y0 HI
                  go_wp2_with fail
                  refine (Of AM cM m _ h7.1.l hCM hcM).mono ?_; rintro e w7 ⟨rfl, hb⟩
                  rw [HM.out]
                  have H8 := Aside0.mk (And.intro (h7.1.below hb) (Kd.C_below h7.2 hb))
                  clear h7 hCM hcM hb
                  go_wp2_with fail
                  go_roundg k1
                  case measure => omega
                  case rel => exact ⟨1, rfl, ⟨by have := HJ.out; omega, by omega⟩, H8⟩
                · have hv48' : _ = Value.int .i64 1 := hv48
                  clear hv48
                  subst hv48'
                  have y0 := int_cell HI.out.2 1 6 rfl (by decide)
                  have HM := Aside0.mk (show ofV (nd 6 :: (a ++ b)) = 1 by rw [of_made 6 rfl rtK6 a b (of_pos a (by rw [HVA.out]; decide)) (of_pos b (by rw [HVB.out]; decide)) HS.out, HVA.out, HVB.out]; decide +kernel)
                  obtain ⟨m, hm⟩ : ∃ m, m = nd 6 :: (a ++ b) := ⟨_, rfl⟩
                  rw [← hm] at HM
                  have HE := Aside0.mk hm.symm
                  clear hm
                  go_wp2_with fail
                  have hq := C_pair wr HI.out.1.c1 hc1 HI.out.1.c2 hc2
                  have h6 : InB w _ A1 a A2 b ∧ Kd.C (Kd.int .i64) _ (some ⟨g, 0, none⟩) 5 [5, 6, 7, 8, 10] := And.intro (HI.out.1.below (al wr (.cells #[.slice A1 a.length c1, .slice A2 b.length c2] 51))) (Kd.C_below HI.out.2 (al wr (.cells #[.slice A1 a.length c1, .slice A2 b.length c2] 51)))
                  refine (Make2 (nd 6) _ (by have := HLL.out; omega) (by have := HLL.out; omega) hq).mono ?_; rintro e w6 ⟨AM, cM, rfl, hcM, hCM, hb⟩
                  rw [HE.out] at hcM hCM ⊢
                  have h7 := And.intro (h6.1.below hb) (Kd.C_below h6.2 hb)
                  clear hq h6 hb y0 HI
                  go_wp2_with fail
                  refine (Of AM cM m _ h7.1.l hCM hcM).mono ?_; rintro e w7 ⟨rfl, hb⟩
                  rw [HM.out]
                  have H8 := Aside0.mk (And.intro (h7.1.below hb) (Kd.C_below h7.2 hb))
                  clear h7 hCM hcM hb
                  go_wp2_with fail
                  go_roundg k1
                  case measure => omega
                  case rel => exact ⟨2, rfl, ⟨by have := HJ.out; omega, by omega⟩, H8⟩
                · have hv48' : _ = Value.int .i64 2 := hv48
                  clear hv48
                  subst hv48'
                  have y0 := int_cell HI.out.2 2 7 rfl (by decide)
                  have HM := Aside0.mk (show ofV (nd 7 :: (a ++ b)) = 1 by rw [of_made 7 rfl rtK7 a b (of_pos a (by rw [HVA.out]; decide)) (of_pos b (by rw [HVB.out]; decide)) HS.out, HVA.out, HVB.out]; decide +kernel)
                  obtain ⟨m, hm⟩ : ∃ m, m = nd 7 :: (a ++ b) := ⟨_, rfl⟩
                  rw [← hm] at HM
                  have HE := Aside0.mk hm.symm
                  clear hm
                  go_wp2_with fail
                  have hq := C_pair wr HI.out.1.c1 hc1 HI.out.1.c2 hc2
                  have h6 : InB w _ A1 a A2 b ∧ Kd.C (Kd.int .i64) _ (some ⟨g, 0, none⟩) 5 [5, 6, 7, 8, 10] := And.intro (HI.out.1.below (al wr (.cells #[.slice A1 a.length c1, .slice A2 b.length c2] 51))) (Kd.C_below HI.out.2 (al wr (.cells #[.slice A1 a.length c1, .slice A2 b.length c2] 51)))
                  refine (Make2 (nd 7) _ (by have := HLL.out; omega) (by have := HLL.out; omega) hq).mono ?_; rintro e w6 ⟨AM, cM, rfl, hcM, hCM, hb⟩
                  rw [HE.out] at hcM hCM ⊢
                  have h7 := And.intro (h6.1.below hb) (Kd.C_below h6.2 hb)
                  clear hq h6 hb y0 HI
                  go_wp2_with fail
                  refine (Of AM cM m _ h7.1.l hCM hcM).mono ?_; rintro e w7 ⟨rfl, hb⟩
                  rw [HM.out]
                  have H8 := Aside0.mk (And.intro (h7.1.below hb) (Kd.C_below h7.2 hb))
                  clear h7 hCM hcM hb
                  go_wp2_with fail
                  go_roundg k1
                  case measure => omega
                  case rel => exact ⟨3, rfl, ⟨by have := HJ.out; omega, by omega⟩, H8⟩
                · have hv48' : _ = Value.int .i64 3 := hv48
                  clear hv48
                  subst hv48'
                  have y0 := int_cell HI.out.2 3 8 rfl (by decide)
                  have HM := Aside0.mk (show ofV (nd 8 :: (a ++ b)) = 1 by rw [of_made 8 rfl rtK8 a b (of_pos a (by rw [HVA.out]; decide)) (of_pos b (by rw [HVB.out]; decide)) HS.out, HVA.out, HVB.out]; decide +kernel)
                  obtain ⟨m, hm⟩ : ∃ m, m = nd 8 :: (a ++ b) := ⟨_, rfl⟩
                  rw [← hm] at HM
                  have HE := Aside0.mk hm.symm
                  clear hm
                  go_wp2_with fail
                  have hq := C_pair wr HI.out.1.c1 hc1 HI.out.1.c2 hc2
                  have h6 : InB w _ A1 a A2 b ∧ Kd.C (Kd.int .i64) _ (some ⟨g, 0, none⟩) 5 [5, 6, 7, 8, 10] := And.intro (HI.out.1.below (al wr (.cells #[.slice A1 a.length c1, .slice A2 b.length c2] 51))) (Kd.C_below HI.out.2 (al wr (.cells #[.slice A1 a.length c1, .slice A2 b.length c2] 51)))
                  refine (Make2 (nd 8) _ (by have := HLL.out; omega) (by have := HLL.out; omega) hq).mono ?_; rintro e w6 ⟨AM, cM, rfl, hcM, hCM, hb⟩
                  rw [HE.out] at hcM hCM ⊢
                  have h7 := And.intro (h6.1.below hb) (Kd.C_below h6.2 hb)
                  clear hq h6 hb y0 HI
                  go_wp2_with fail
                  refine (Of AM cM m _ h7.1.l hCM hcM).mono ?_; rintro e w7 ⟨rfl, hb⟩
                  rw [HM.out]
                  have H8 := Aside0.mk (And.intro (h7.1.below hb) (Kd.C_below h7.2 hb))
                  clear h7 hCM hcM hb
                  go_wp2_with fail
                  go_roundg k1
                  case measure => omega
                  case rel => exact ⟨4, rfl, ⟨by have := HJ.out; omega, by omega⟩, H8⟩
                · have hv48' : _ = Value.int .i64 4 := hv48
                  clear hv48
                  subst hv48'
                  have y0 := int_cell HI.out.2 4 10 rfl (by decide)
                  have HM := Aside0.mk (show ofV (nd 10 :: (a ++ b)) = 2 by rw [of_made 10 rfl rtK10 a b (of_pos a (by rw [HVA.out]; decide)) (of_pos b (by rw [HVB.out]; decide)) HS.out, HVA.out, HVB.out]; decide +kernel)
                  obtain ⟨m, hm⟩ : ∃ m, m = nd 10 :: (a ++ b) := ⟨_, rfl⟩
                  rw [← hm] at HM
                  have HE := Aside0.mk hm.symm
                  clear hm
                  go_wp2_with fail
                  have hq := C_pair wr HI.out.1.c1 hc1 HI.out.1.c2 hc2
                  have h6 : InB w _ A1 a A2 b ∧ Kd.C (Kd.int .i64) _ (some ⟨g, 0, none⟩) 5 [5, 6, 7, 8, 10] := And.intro (HI.out.1.below (al wr (.cells #[.slice A1 a.length c1, .slice A2 b.length c2] 51))) (Kd.C_below HI.out.2 (al wr (.cells #[.slice A1 a.length c1, .slice A2 b.length c2] 51)))
                  refine (Make2 (nd 10) _ (by have := HLL.out; omega) (by have := HLL.out; omega) hq).mono ?_; rintro e w6 ⟨AM, cM, rfl, hcM, hCM, hb⟩
                  rw [HE.out] at hcM hCM ⊢
                  have h7 := And.intro (h6.1.below hb) (Kd.C_below h6.2 hb)
                  clear hq h6 hb y0 HI
                  go_wp2_with fail
                  refine (Of AM cM m _ h7.1.l hCM hcM).mono ?_; rintro e w7 ⟨rfl, hb⟩
                  rw [HM.out]
                  have H8 := Aside0.mk (And.intro (h7.1.below hb) (Kd.C_below h7.2 hb))
                  clear h7 hCM hcM hb
                  go_wp2_with fail
                  go_roundg k1
                  case measure => omega
                  case rel => exact ⟨5, rfl, ⟨by have := HJ.out; omega, by omega⟩, H8⟩
                · have hv48' : _ = Value.int .i64 5 := hv48
                  clear hv48
                  subst hv48'
                  have h6 := HI.out.1
                  clear HI
                  go_wp2_with fail
                  refine (f51 h6).mono ?_; rintro e w8 ⟨rfl, h7⟩
                  clear h6
                  go_wp2_with fail
                  (try rw [Exit.noGoto_ret])
                  go_ret
                  exact ⟨rfl, h7.b⟩
          · have HVB := Aside0.mk hv
            clear hv
            go_enter Tryd.func19, Tryd.ntmps19
            go_wp2_with fail
            refine (f50a true hc1 HF.out h0).mono ?_; rintro e w1 ⟨rfl, h1⟩
            clear h0
            go_wp2_with fail
            refine (f50b true hc2 HG.out h1).mono ?_; rintro e w2 ⟨rfl, h2⟩
            clear h1
            go_wp2_with fail
            refine (f52a 1 hc1 HVA.out h2).mono ?_; rintro e w3 ⟨rfl, h3⟩
            clear h2
            go_wp2_with fail
            refine (f52b 2 hc2 HVB.out h3).mono ?_; rintro e w4 ⟨rfl, h4⟩
            clear h3
            go_wp2_with fail
            obtain ⟨g, hg⟩ : ∃ g, g = w4.heap.size := ⟨_, rfl⟩
            have h5 : InB w (w4.alloc (.cells #[.int .i64 5, .int .i64 6, .int .i64 7, .int .i64 8, .int .i64 10] 3)) A1 a A2 b := h4.below (al w4 _)
            have hI := ints_C w4 [5, 6, 7, 8, 10] 5 rfl (by decide) #[.int .i64 5, .int .i64 6, .int .i64 7, .int .i64 8, .int .i64 10] rfl
            obtain ⟨w5, hw5⟩ : ∃ w5, w5 = w4.alloc (.cells #[.int .i64 5, .int .i64 6, .int .i64 7, .int .i64 8, .int .i64 10] 3) := ⟨_, rfl⟩
            rw [← hw5] at h5 hI ⊢
            rw [← hg] at hI ⊢
            have H5 := Aside0.mk (And.intro h5 hI)
            clear h4 h5 hI hg hw5
            go_loopg [8, 9, 48] 6 (fun kq v8 v9 v48 W => ∃ (j : Nat), v48 = .int .i64 (j : Int) ∧ Aside0 (kq + j = 6 ∧ j ≤ 5) ∧ Aside0 (InB w W A1 a A2 b ∧ Kd.C (Kd.int .i64) W (some ⟨g, 0, none⟩) 5 [5, 6, 7, 8, 10]))
            case atStart => exact ⟨0, rfl, ⟨by omega, by omega⟩, H5⟩
            case round =>
              clear H5
              obtain ⟨j, hv48, HJ, HI⟩ := hrel
              cases gk with
              | zero => exact absurd HJ.out (by omega)
              | succ k1 =>
                have hj : j = 0 ∨ j = 1 ∨ j = 2 ∨ j = 3 ∨ j = 4 ∨ j = 5 := by have := HJ.out; omega
                rcases hj with rfl | rfl | rfl | rfl | rfl | rfl
                · have hv48' : _ = Value.int .i64 0 := hv48
                  clear hv48
                  subst hv48'
                  have y0 := int_cell HI.out.2 0 5 rfl (by decide)
                  have HM := Aside0.mk (show ofV (nd 5 :: (a ++ b)) = 0 by rw [of_made 5 rfl rtK5 a b (of_pos a (by rw [HVA.out]; decide)) (of_pos b (by rw [HVB.out]; decide)) HS.out, HVA.out, HVB.out]; decide +kernel)
                  obtain ⟨m, hm⟩ : ∃ m, m = nd 5 :: (a ++ b) := ⟨_, rfl⟩
                  rw [← hm] at HM
                  have HE := Aside0.mk hm.symm
                  clear hm
                  go_wp2_with fail
                  have hq := C_pair wr HI.out.1.c1 hc1 HI.out.1.c2 hc2
                  have h6 : InB w _ A1 a A2 b ∧ Kd.C (Kd.int .i64) _ (some ⟨g, 0, none⟩) 5 [5, 6, 7, 8, 10] := And.intro (HI.out.1.below (al wr (.cells #[.slice A1 a.length c1, .slice A2 b.length c2] 51))) (Kd.C_below HI.out.2 (al wr (.cells #[.slice A1 a.length c1, .slice A2 b.length c2] 51)))
                  refine (Make2 (nd 5) _ (by have := HLL.out; omega) (by have := HLL.out; omega) hq).mono ?_; rintro e w6 ⟨AM, cM, rfl, hcM, hCM, hb⟩
                  rw [HE.out] at hcM hCM ⊢
                  have h7 := And.intro (h6.1.below hb) (Kd.C_below h6.2 hb)
                  clear hq h6 hb y0 HI
                  go_wp2_with fail
                  refine (Of AM cM m _ h7.1.l hCM hcM).mono ?_; rintro e w7 ⟨rfl, hb⟩
                  rw [HM.out]
                  have H8 := Aside0.mk (And.intro (h7.1.below hb) (Kd.C_below h7.2 hb))
                  clear h7 hCM hcM hb
                  go_wp2_with fail
                  go_roundg k1
                  case measure => omega
                  case rel => exact ⟨1, rfl, ⟨by have := HJ.out; omega, by omega⟩, H8⟩
                · have hv48' : _ = Value.int .i64 1 := hv48
                  clear hv48
                  subst hv48'
                  have y0 := int_cell HI.out.2 1 6 rfl (by decide)
                  have HM := Aside0.mk (show ofV (nd 6 :: (a ++ b)) = 0 by rw [of_made 6 rfl rtK6 a b (of_pos a (by rw [HVA.out]; decide)) (of_pos b (by rw [HVB.out]; decide)) HS.out, HVA.out, HVB.out]; decide +kernel)
                  obtain ⟨m, hm⟩ : ∃ m, m = nd 6 :: (a ++ b) := ⟨_, rfl⟩
                  rw [← hm] at HM
                  have HE := Aside0.mk hm.symm
                  clear hm
                  go_wp2_with fail
                  have hq := C_pair wr HI.out.1.c1 hc1 HI.out.1.c2 hc2
                  have h6 : InB w _ A1 a A2 b ∧ Kd.C (Kd.int .i64) _ (some ⟨g, 0, none⟩) 5 [5, 6, 7, 8, 10] := And.intro (HI.out.1.below (al wr (.cells #[.slice A1 a.length c1, .slice A2 b.length c2] 51))) (Kd.C_below HI.out.2 (al wr (.cells #[.slice A1 a.length c1, .slice A2 b.length c2] 51)))
                  refine (Make2 (nd 6) _ (by have := HLL.out; omega) (by have := HLL.out; omega) hq).mono ?_; rintro e w6 ⟨AM, cM, rfl, hcM, hCM, hb⟩
                  rw [HE.out] at hcM hCM ⊢
                  have h7 := And.intro (h6.1.below hb) (Kd.C_below h6.2 hb)
                  clear hq h6 hb y0 HI
                  go_wp2_with fail
                  refine (Of AM cM m _ h7.1.l hCM hcM).mono ?_; rintro e w7 ⟨rfl, hb⟩
                  rw [HM.out]
                  have H8 := Aside0.mk (And.intro (h7.1.below hb) (Kd.C_below h7.2 hb))
                  clear h7 hCM hcM hb
                  go_wp2_with fail
                  go_roundg k1
                  case measure => omega
                  case rel => exact ⟨2, rfl, ⟨by have := HJ.out; omega, by omega⟩, H8⟩
                · have hv48' : _ = Value.int .i64 2 := hv48
                  clear hv48
                  subst hv48'
                  have y0 := int_cell HI.out.2 2 7 rfl (by decide)
                  have HM := Aside0.mk (show ofV (nd 7 :: (a ++ b)) = 0 by rw [of_made 7 rfl rtK7 a b (of_pos a (by rw [HVA.out]; decide)) (of_pos b (by rw [HVB.out]; decide)) HS.out, HVA.out, HVB.out]; decide +kernel)
                  obtain ⟨m, hm⟩ : ∃ m, m = nd 7 :: (a ++ b) := ⟨_, rfl⟩
                  rw [← hm] at HM
                  have HE := Aside0.mk hm.symm
                  clear hm
                  go_wp2_with fail
                  have hq := C_pair wr HI.out.1.c1 hc1 HI.out.1.c2 hc2
                  have h6 : InB w _ A1 a A2 b ∧ Kd.C (Kd.int .i64) _ (some ⟨g, 0, none⟩) 5 [5, 6, 7, 8, 10] := And.intro (HI.out.1.below (al wr (.cells #[.slice A1 a.length c1, .slice A2 b.length c2] 51))) (Kd.C_below HI.out.2 (al wr (.cells #[.slice A1 a.length c1, .slice A2 b.length c2] 51)))
                  refine (Make2 (nd 7) _ (by have := HLL.out; omega) (by have := HLL.out; omega) hq).mono ?_; rintro e w6 ⟨AM, cM, rfl, hcM, hCM, hb⟩
                  rw [HE.out] at hcM hCM ⊢
                  have h7 := And.intro (h6.1.below hb) (Kd.C_below h6.2 hb)
                  clear hq h6 hb y0 HI
                  go_wp2_with fail
                  refine (Of AM cM m _ h7.1.l hCM hcM).mono ?_; rintro e w7 ⟨rfl, hb⟩
                  rw [HM.out]
                  have H8 := Aside0.mk (And.intro (h7.1.below hb) (Kd.C_below h7.2 hb))
                  clear h7 hCM hcM hb
                  go_wp2_with fail
                  go_roundg k1
                  case measure => omega
                  case rel => exact ⟨3, rfl, ⟨by have := HJ.out; omega, by omega⟩, H8⟩
                · have hv48' : _ = Value.int .i64 3 := hv48
                  clear hv48
                  subst hv48'
                  have y0 := int_cell HI.out.2 3 8 rfl (by decide)
                  have HM := Aside0.mk (show ofV (nd 8 :: (a ++ b)) = 0 by rw [of_made 8 rfl rtK8 a b (of_pos a (by rw [HVA.out]; decide)) (of_pos b (by rw [HVB.out]; decide)) HS.out, HVA.out, HVB.out]; decide +kernel)
                  obtain ⟨m, hm⟩ : ∃ m, m = nd 8 :: (a ++ b) := ⟨_, rfl⟩
                  rw [← hm] at HM
                  have HE := Aside0.mk hm.symm
                  clear hm
                  go_wp2_with fail
                  have hq := C_pair wr HI.out.1.c1 hc1 HI.out.1.c2 hc2
                  have h6 : InB w _ A1 a A2 b ∧ Kd.C (Kd.int .i64) _ (some ⟨g, 0, none⟩) 5 [5, 6, 7, 8, 10] := And.intro (HI.out.1.below (al wr (.cells #[.slice A1 a.length c1, .slice A2 b.length c2] 51))) (Kd.C_below HI.out.2 (al wr (.cells #[.slice A1 a.length c1, .slice A2 b.length c2] 51)))
                  refine (Make2 (nd 8) _ (by have := HLL.out; omega) (by have := HLL.out; omega) hq).mono ?_; rintro e w6 ⟨AM, cM, rfl, hcM, hCM, hb⟩
                  rw [HE.out] at hcM hCM ⊢
                  have h7 := And.intro (h6.1.below hb) (Kd.C_below h6.2 hb)
                  clear hq h6 hb y0 HI
                  go_wp2_with fail
                  refine (Of AM cM m _ h7.1.l hCM hcM).mono ?_; rintro e w7 ⟨rfl, hb⟩
                  rw [HM.out]
                  have H8 := Aside0.mk (And.intro (h7.1.below hb) (Kd.C_below h7.2 hb))
                  clear h7 hCM hcM hb
                  go_wp2_with fail
                  go_roundg k1
                  case measure => omega
                  case rel => exact ⟨4, rfl, ⟨by have := HJ.out; omega, by omega⟩, H8⟩
                · have hv48' : _ = Value.int .i64 4 := hv48
                  clear hv48
                  subst hv48'
                  have y0 := int_cell HI.out.2 4 10 rfl (by decide)
                  have HM := Aside0.mk (show ofV (nd 10 :: (a ++ b)) = 0 by rw [of_made 10 rfl rtK10 a b (of_pos a (by rw [HVA.out]; decide)) (of_pos b (by rw [HVB.out]; decide)) HS.out, HVA.out, HVB.out]; decide +kernel)
                  obtain ⟨m, hm⟩ : ∃ m, m = nd 10 :: (a ++ b) := ⟨_, rfl⟩
                  rw [← hm] at HM
                  have HE := Aside0.mk hm.symm
                  clear hm
                  go_wp2_with fail
                  have hq := C_pair wr HI.out.1.c1 hc1 HI.out.1.c2 hc2
                  have h6 : InB w _ A1 a A2 b ∧ Kd.C (Kd.int .i64) _ (some ⟨g, 0, none⟩) 5 [5, 6, 7, 8, 10] := And.intro (HI.out.1.below (al wr (.cells #[.slice A1 a.length c1, .slice A2 b.length c2] 51))) (Kd.C_below HI.out.2 (al wr (.cells #[.slice A1 a.length c1, .slice A2 b.length c2] 51)))
                  refine (Make2 (nd 10) _ (by have := HLL.out; omega) (by have := HLL.out; omega) hq).mono ?_; rintro e w6 ⟨AM, cM, rfl, hcM, hCM, hb⟩
                  rw [HE.out] at hcM hCM ⊢
                  have h7 := And.intro (h6.1.below hb) (Kd.C_below h6.2 hb)
                  clear hq h6 hb y0 HI
                  go_wp2_with fail
                  refine (Of AM cM m _ h7.1.l hCM hcM).mono ?_; rintro e w7 ⟨rfl, hb⟩
                  rw [HM.out]
                  have H8 := Aside0.mk (And.intro (h7.1.below hb) (Kd.C_below h7.2 hb))
                  clear h7 hCM hcM hb
                  go_wp2_with fail
                  go_roundg k1
                  case measure => omega
                  case rel => exact ⟨5, rfl, ⟨by have := HJ.out; omega, by omega⟩, H8⟩
                · have hv48' : _ = Value.int .i64 5 := hv48
                  clear hv48
                  subst hv48'
                  have h6 := HI.out.1
                  clear HI
                  go_wp2_with fail
                  refine (f51 h6).mono ?_; rintro e w8 ⟨rfl, h7⟩
                  clear h6
                  go_wp2_with fail
                  (try rw [Exit.noGoto_ret])
                  go_ret
                  exact ⟨rfl, h7.b⟩
          · have HVB := Aside0.mk hv
            clear hv
            go_enter Tryd.func19, Tryd.ntmps19
            go_wp2_with fail
            refine (f50a true hc1 HF.out h0).mono ?_; rintro e w1 ⟨rfl, h1⟩
            clear h0
            go_wp2_with fail
            refine (f50b true hc2 HG.out h1).mono ?_; rintro e w2 ⟨rfl, h2⟩
            clear h1
            go_wp2_with fail
            refine (f52a 1 hc1 HVA.out h2).mono ?_; rintro e w3 ⟨rfl, h3⟩
            clear h2
            go_wp2_with fail
            refine (f52b 3 hc2 HVB.out h3).mono ?_; rintro e w4 ⟨rfl, h4⟩
            clear h3
            go_wp2_with fail
            refine (f51 h4).mono ?_; rintro e w5 ⟨rfl, h5⟩
            clear h4
            go_wp2_with fail
            (try rw [Exit.noGoto_ret])
            go_ret
            exact ⟨rfl, h5.b⟩
          · have HVB := Aside0.mk hv
            clear hv
            go_enter Tryd.func19, Tryd.ntmps19
            go_wp2_with fail
            refine (f50a true hc1 HF.out h0).mono ?_; rintro e w1 ⟨rfl, h1⟩
            clear h0
            go_wp2_with fail
            refine (f50b true hc2 HG.out h1).mono ?_; rintro e w2 ⟨rfl, h2⟩
            clear h1
            go_wp2_with fail
            refine (f52a 1 hc1 HVA.out h2).mono ?_; rintro e w3 ⟨rfl, h3⟩
            clear h2
            go_wp2_with fail
            refine (f52b 4 hc2 HVB.out h3).mono ?_; rintro e w4 ⟨rfl, h4⟩
            clear h3
            go_wp2_with fail
            refine (f51 h4).mono ?_; rintro e w5 ⟨rfl, h5⟩
            clear h4
            go_wp2_with fail
            (try rw [Exit.noGoto_ret])
            go_ret
            exact ⟨rfl, h5.b⟩
        · have HVA := Aside0.mk hv
          clear hv
          rcases five _ (ofV_in b) with hv | hv | hv | hv | hv
          · have HVB := Aside0.mk hv
            clear hv
            go_enter Tryd.func19, Tryd.ntmps19
            go_wp2_with fail
            refine (f50a true hc1 HF.out h0).mono ?_; rintro e w1 ⟨rfl, h1⟩
            clear h0
            go_wp2_with fail
            refine (f50b true hc2 HG.out h1).mono ?_; rintro e w2 ⟨rfl, h2⟩
            clear h1
            go_wp2_with fail
            refine (f52a 2 hc1 HVA.out h2).mono ?_; rintro e w3 ⟨rfl, h3⟩
            clear h2
            go_wp2_with fail
            refine (f52b 0 hc2 HVB.out h3).mono ?_; rintro e w4 ⟨rfl, h4⟩
            clear h3
            go_wp2_with fail
            refine (f51 h4).mono ?_; rintro e w5 ⟨rfl, h5⟩
            clear h4
            go_wp2_with fail
            (try rw [Exit.noGoto_ret])
            go_ret
            exact ⟨rfl, h5.b⟩
          · have HVB := Aside0.mk hv
            clear hv
            go_enter Tryd.func19, Tryd.ntmps19
            go_wp2_with fail
            refine (f50a true hc1 HF.out h0).mono ?_; rintro e w1 ⟨rfl, h1⟩
            clear h0
            go_wp2_with fail
            refine (f50b true hc2 HG.out h1).mono ?_; rintro e w2 ⟨rfl, h2⟩
            clear h1
            go_wp2_with fail
            refine (f52a 2 hc1 HVA.out h2).mono ?_; rintro e w3 ⟨rfl, h3⟩
            clear h2
            go_wp2_with fail
            refine (f52b 1 hc2 HVB.out h3).mono ?_; rintro e w4 ⟨rfl, h4⟩
            clear h3
            go_wp2_with fail
            obtain ⟨g, hg⟩ : ∃ g, g = w4.heap.size := ⟨_, rfl⟩
            have h5 : InB w (w4.alloc (.cells #[.int .i64 5, .int .i64 6, .int .i64 7, .int .i64 8, .int .i64 10] 3)) A1 a A2 b := h4.below (al w4 _)
            have hI := ints_C w4 [5, 6, 7, 8, 10] 5 rfl (by decide) #[.int .i64 5, .int .i64 6, .int .i64 7, .int .i64 8, .int .i64 10] rfl
            obtain ⟨w5, hw5⟩ : ∃ w5, w5 = w4.alloc (.cells #[.int .i64 5, .int .i64 6, .int .i64 7, .int .i64 8, .int .i64 10] 3) := ⟨_, rfl⟩
            rw [← hw5] at h5 hI ⊢
            rw [← hg] at hI ⊢
            have H5 := Aside0.mk (And.intro h5 hI)
            clear h4 h5 hI hg hw5
            go_loopg [8, 9, 48] 6 (fun kq v8 v9 v48 W => ∃ (j : Nat), v48 = .int .i64 (j : Int) ∧ Aside0 (kq + j = 6 ∧ j ≤ 5) ∧ Aside0 (InB w W A1 a A2 b ∧ Kd.C (Kd.int .i64) W (some ⟨g, 0, none⟩) 5 [5, 6, 7, 8, 10]))
            case atStart => exact ⟨0, rfl, ⟨by omega, by omega⟩, H5⟩
            case round =>
              clear H5
              obtain ⟨j, hv48, HJ, HI⟩ := hrel
              cases gk with
              | zero => exact absurd HJ.out (by omega)
              | succ k1 =>
                have hj : j = 0 ∨ j = 1 ∨ j = 2 ∨ j = 3 ∨ j = 4 ∨ j = 5 := by have := HJ.out; omega
                rcases hj with rfl | rfl | rfl | rfl | rfl | rfl
                · have hv48' : _ = Value.int .i64 0 := hv48
                  clear hv48
                  subst hv48'
                  have y0 := int_cell HI.out.2 0 5 rfl (by decide)
                  have HM := Aside0.mk (show ofV (nd 5 :: (a ++ b)) = 0 by rw [of_made 5 rfl rtK5 a b (of_pos a (by rw [HVA.out]; decide)) (of_pos b (by rw [HVB.out]; decide)) HS.out, HVA.out, HVB.out]; decide +kernel)
                  obtain ⟨m, hm⟩ : ∃ m, m = nd 5 :: (a ++ b) := ⟨_, rfl⟩
                  rw [← hm] at HM
                  have HE := Aside0.mk hm.symm
                  clear hm
                  go_wp2_with fail
                  have hq := C_pair wr HI.out.1.c1 hc1 HI.out.1.c2 hc2
                  have h6 : InB w _ A1 a A2 b ∧ Kd.C (Kd.int .i64) _ (some ⟨g, 0, none⟩) 5 [5, 6, 7, 8, 10] := And.intro (HI.out.1.below (al wr (.cells #[.slice A1 a.length c1, .slice A2 b.length c2] 51))) (Kd.C_below HI.out.2 (al wr (.cells #[.slice A1 a.length c1, .slice A2 b.length c2] 51)))
                  refine (Make2 (nd 5) _ (by have := HLL.out; omega) (by have := HLL.out; omega) hq).mono ?_; rintro e w6 ⟨AM, cM, rfl, hcM, hCM, hb⟩
                  rw [HE.out] at hcM hCM ⊢
                  have h7 := And.intro (h6.1.below hb) (Kd.C_below h6.2 hb)
                  clear hq h6 hb y0 HI
                  go_wp2_with fail
                  refine (Of AM cM m _ h7.1.l hCM hcM).mono ?_; rintro e w7 ⟨rfl, hb⟩
                  rw [HM.out]
                  have H8 := Aside0.mk (And.intro (h7.1.below hb) (Kd.C_below h7.2 hb))
                  clear h7 hCM hcM hb
                  go_wp2_with fail
                  go_roundg k1
                  case measure => omega
                  case rel => exact ⟨1, rfl, ⟨by have := HJ.out; omega, by omega⟩, H8⟩
                · have hv48' : _ = Value.int .i64 1 := hv48
                  clear hv48
                  subst hv48'
                  have y0 := int_cell HI.out.2 1 6 rfl (by decide)
                  have HM := Aside0.mk (show ofV (nd 6 :: (a ++ b)) = 0 by rw [of_made 6 rfl rtK6 a b (of_pos a (by rw [HVA.out]; decide)) (of_pos b (by rw [HVB.out]; decide)) HS.out, HVA.out, HVB.out]; decide +kernel)
                  obtain ⟨m, hm⟩ : ∃ m, m = nd 6 :: (a ++ b) := ⟨_, rfl⟩
                  rw [← hm] at HM
                  have HE := Aside0.mk hm.symm
                  clear hm
                  go_wp2_with fail
                  have hq := C_pair wr HI.out.1.c1 hc1 HI.out.1.c2 hc2
                  have h6 : InB w _ A1 a A2 b ∧ Kd.C (Kd.int .i64) _ (some ⟨g, 0, none⟩) 5 [5, 6, 7, 8, 10] := And.intro (HI.out.1.below (al wr (.cells #[.slice A1 a.length c1, .slice A2 b.length c2] 51))) (Kd.C_below HI.out.2 (al wr (.cells #[.slice A1 a.length c1, .slice A2 b.length c2] 51)))
                  refine (Make2 (nd 6) _ (by have := HLL.out; omega) (by have := HLL.out; omega) hq).mono ?_; rintro e w6 ⟨AM, cM, rfl, hcM, hCM, hb⟩
                  rw [HE.out] at hcM hCM ⊢
                  have h7 := And.intro (h6.1.below hb) (Kd.C_below h6.2 hb)
                  clear hq h6 hb y0 HI
                  go_wp2_with fail
                  refine (Of AM cM m _ h7.1.l hCM hcM).mono ?_; rintro e w7 ⟨rfl, hb⟩
                  rw [HM.out]
                  have H8 := Aside0.mk (And.intro (h7.1.below hb) (Kd.C_below h7.2 hb))
                  clear h7 hCM hcM hb
                  go_wp2_with fail
                  go_roundg k1
                  case measure => omega
                  case rel => exact ⟨2, rfl, ⟨by have := HJ.out; omega, by omega⟩, H8⟩
                · have hv48' : _ = Value.int .i64 2 := hv48
                  clear hv48
                  subst hv48'
                  have y0 := int_cell HI.out.2 2 7 rfl (by decide)
                  have HM := Aside0.mk (show ofV (nd 7 :: (a ++ b)) = 0 by rw [of_made 7 rfl rtK7 a b (of_pos a (by rw [HVA.out]; decide)) (of_pos b (by rw [HVB.out]; decide)) HS.out, HVA.out, HVB.out]; decide +kernel)
                  obtain ⟨m, hm⟩ : ∃ m, m = nd 7 :: (a ++ b) := ⟨_, rfl⟩
                  rw [← hm] at HM
                  have HE := Aside0.mk hm.symm
                  clear hm
                  go_wp2_with fail
                  have hq := C_pair wr HI.out.1.c1 hc1 HI.out.1.c2 hc2
                  have h6 : InB w _ A1 a A2 b ∧ Kd.C (Kd.int .i64) _ (some ⟨g, 0, none⟩) 5 [5, 6, 7, 8, 10] := And.intro (HI.out.1.below (al wr (.cells #[.slice A1 a.length c1, .slice A2 b.length c2] 51))) (Kd.C_below HI.out.2 (al wr (.cells #[.slice A1 a.length c1, .slice A2 b.length c2] 51)))
                  refine (Make2 (nd 7) _ (by have := HLL.out; omega) (by have := HLL.out; omega) hq).mono ?_; rintro e w6 ⟨AM, cM, rfl, hcM, hCM, hb⟩
                  rw [HE.out] at hcM hCM ⊢
                  have h7 := And.intro (h6.1.below hb) (Kd.C_below h6.2 hb)
                  clear hq h6 hb y0 HI
                  go_wp2_with fail
                  refine (Of AM cM m _ h7.1.l hCM hcM).mono ?_; rintro e w7 ⟨rfl, hb⟩
                  rw [HM.out]
                  have H8 := Aside0.mk (And.intro (h7.1.below hb) (Kd.C_below h7.2 hb))
                  clear h7 hCM hcM hb
                  go_wp2_with fail
                  go_roundg k1
                  case measure => omega
                  case rel => exact ⟨3, rfl, ⟨by have := HJ.out; omega, by omega⟩, H8⟩
                · have hv48' : _ = Value.int .i64 3 := hv48
                  clear hv48
                  subst hv48'
                  have y0 := int_cell HI.out.2 3 8 rfl (by decide)
                  have HM := Aside0.mk (show ofV (nd 8 :: (a ++ b)) = 0 by rw [of_made 8 rfl rtK8 a b (of_pos a (by rw [HVA.out]; decide)) (of_pos b (by rw [HVB.out]; decide)) HS.out, HVA.out, HVB.out]; decide +kernel)
                  obtain ⟨m, hm⟩ : ∃ m, m = nd 8 :: (a ++ b) := ⟨_, rfl⟩
                  rw [← hm] at HM
                  have HE := Aside0.mk hm.symm
                  clear hm
                  go_wp2_with fail
                  have hq := C_pair wr HI.out.1.c1 hc1 HI.out.1.c2 hc2
                  have h6 : InB w _ A1 a A2 b ∧ Kd.C (Kd.int .i64) _ (some ⟨g, 0, none⟩) 5 [5, 6, 7, 8, 10] := And.intro (HI.out.1.below (al wr (.cells #[.slice A1 a.length c1, .slice A2 b.length c2] 51))) (Kd.C_below HI.out.2 (al wr (.cells #[.slice A1 a.length c1, .slice A2 b.length c2] 51)))
                  refine (Make2 (nd 8) _ (by have := HLL.out; omega) (by have := HLL.out; omega) hq).mono ?_; rintro e w6 ⟨AM, cM, rfl, hcM, hCM, hb⟩
                  rw [HE.out] at hcM hCM ⊢
                  have h7 := And.intro (h6.1.below hb) (Kd.C_below h6.2 hb)
                  clear hq h6 hb y0 HI
                  go_wp2_with fail
                  refine (Of AM cM m _ h7.1.l hCM hcM).mono ?_; rintro e w7 ⟨rfl, hb⟩
                  rw [HM.out]
                  have H8 := Aside0.mk (And.intro (h7.1.below hb) (Kd.C_below h7.2 hb))
                  clear h7 hCM hcM hb
                  go_wp2_with fail
                  go_roundg k1
                  case measure => omega
                  case rel => exact ⟨4, rfl, ⟨by have := HJ.out; omega, by omega⟩, H8⟩
                · have hv48' : _ = Value.int .i64 4 := hv48
                  clear hv48
                  subst hv48'
                  have y0 := int_cell HI.out.2 4 10 rfl (by decide)
                  have HM := Aside0.mk (show ofV (nd 10 :: (a ++ b)) = 0 by rw [of_made 10 rfl rtK10 a b (of_pos a (by rw [HVA.out]; decide)) (of_pos b (by rw [HVB.out]; decide)) HS.out, HVA.out, HVB.out]; decide +kernel)
                  obtain ⟨m, hm⟩ : ∃ m, m = nd 10 :: (a ++ b) := ⟨_, rfl⟩
                  rw [← hm] at HM
                  have HE := Aside0.mk hm.symm
                  clear hm
                  go_wp2_with fail
                  have hq := C_pair wr HI.out.1.c1 hc1 HI.out.1.c2 hc2
                  have h6 : InB w _ A1 a A2 b ∧ Kd.C (Kd.int .i64) _ (some ⟨g, 0, none⟩) 5 [5, 6, 7, 8, 10] := And.intro (HI.out.1.below (al wr (.cells #[.slice A1 a.length c1, .slice A2 b.length c2] 51))) (Kd.C_below HI.out.2 (al wr (.cells #[.slice A1 a.length c1, .slice A2 b.length c2] 51)))
                  refine (Make2 (nd 10) _ (by have := HLL.out; omega) (by have := HLL.out; omega) hq).mono ?_; rintro e w6 ⟨AM, cM, rfl, hcM, hCM, hb⟩
                  rw [HE.out] at hcM hCM ⊢
                  have h7 := And.intro (h6.1.below hb) (Kd.C_below h6.2 hb)
                  clear hq h6 hb y0 HI
                  go_wp2_with fail
                  refine (Of AM cM m _ h7.1.l hCM hcM).mono ?_; rintro e w7 ⟨rfl, hb⟩
                  rw [HM.out]
                  have H8 := Aside0.mk (And.intro (h7.1.below hb) (Kd.C_below h7.2 hb))
                  clear h7 hCM hcM hb
                  go_wp2_with fail
                  go_roundg k1
                  case measure => omega
                  case rel => exact ⟨5, rfl, ⟨by have := HJ.out; omega, by omega⟩, H8⟩
                · have hv48' : _ = Value.int .i64 5 := hv48
                  clear hv48
                  subst hv48'
                  have h6 := HI.out.1
                  clear HI
                  go_wp2_with fail
                  refine (f51 h6).mono ?_; rintro e w8 ⟨rfl, h7⟩
                  clear h6
                  go_wp2_with fail
                  (try rw [Exit.noGoto_ret])
                  go_ret
                  exact ⟨rfl, h7.b⟩
          · have HVB := Aside0.mk hv
            clear hv
            go_enter Tryd.func19, Tryd.ntmps19
            go_wp2_with fail
            refine (f50a true hc1 HF.out h0).mono ?_; rintro e w1 ⟨rfl, h1⟩
            clear h0
            go_wp2_with fail
            refine (f50b true hc2 HG.out h1).mono ?_; rintro e w2 ⟨rfl, h2⟩
            clear h1
            go_wp2_with fail
            refine (f52a 2 hc1 HVA.out h2).mono ?_; rintro e w3 ⟨rfl, h3⟩
            clear h2
            go_wp2_with fail
            refine (f52b 2 hc2 HVB.out h3).mono ?_; rintro e w4 ⟨rfl, h4⟩
            clear h3
            go_wp2_with fail
            obtain ⟨g, hg⟩ : ∃ g, g = w4.heap.size := ⟨_, rfl⟩
            have h5 : InB w (w4.alloc (.cells #[.int .i64 5, .int .i64 6, .int .i64 7, .int .i64 8, .int .i64 10] 3)) A1 a A2 b := h4.below (al w4 _)
            have hI := ints_C w4 [5, 6, 7, 8, 10] 5 rfl (by decide) #[.int .i64 5, .int .i64 6, .int .i64 7, .int .i64 8, .int .i64 10] rfl
            obtain ⟨w5, hw5⟩ : ∃ w5, w5 = w4.alloc (.cells #[.int .i64 5, .int .i64 6, .int .i64 7, .int .i64 8, .int .i64 10] 3) := ⟨_, rfl⟩
            rw [← hw5] at h5 hI ⊢
            rw [← hg] at hI ⊢
            have H5 := Aside0.mk (And.intro h5 hI)
            clear h4 h5 hI hg hw5
            go_loopg [8, 9, 48] 6 (fun kq v8 v9 v48 W => ∃ (j : Nat), v48 = .int .i64 (j : Int) ∧ Aside0 (kq + j = 6 ∧ j ≤ 5) ∧ Aside0 (InB w W A1 a A2 b ∧ Kd.C (Kd.int .i64) W (some ⟨g, 0, none⟩) 5 [5, 6, 7, 8, 10]))
            case atStart => exact ⟨0, rfl, ⟨by omega, by omega⟩, H5⟩
            case round =>
              clear H5
              obtain ⟨j, hv48, HJ, HI⟩ := hrel
              cases gk with
              | zero => exact absurd HJ.out (by omega)
              | succ k1 =>
                have hj : j = 0 ∨ j = 1 ∨ j = 2 ∨ j = 3 ∨ j = 4 ∨ j = 5 := by have := HJ.out; omega
                rcases hj with rfl | rfl | rfl | rfl | rfl | rfl
                · have hv48' : _ = Value.int .i64 0 := hv48
                  clear hv48
                  subst hv48'
                  have y0 := int_cell HI.out.2 0 5 rfl (by decide)
                  have HM := Aside0.mk (show ofV (nd 5 :: (a ++ b)) = 2 by rw [of_made 5 rfl rtK5 a b (of_pos a (by rw [HVA.out]; decide)) (of_pos b (by rw [HVB.out]; decide)) HS.out, HVA.out, HVB.out]; decide +kernel)
                  obtain ⟨m, hm⟩ : ∃ m, m = nd 5 :: (a ++ b) := ⟨_, rfl⟩
                  rw [← hm] at HM
                  have HE := Aside0.mk hm.symm
                  clear hm
                  go_wp2_with fail
                  have hq := C_pair wr HI.out.1.c1 hc1 HI.out.1.c2 hc2
                  have h6 : InB w _ A1 a A2 b ∧ Kd.C (Kd.int .i64) _ (some ⟨g, 0, none⟩) 5 [5, 6, 7, 8, 10] := And.intro (HI.out.1.below (al wr (.cells #[.slice A1 a.length c1, .slice A2 b.length c2] 51))) (Kd.C_below HI.out.2 (al wr (.cells #[.slice A1 a.length c1, .slice A2 b.length c2] 51)))
                  refine (Make2 (nd 5) _ (by have := HLL.out; omega) (by have := HLL.out; omega) hq).mono ?_; rintro e w6 ⟨AM, cM, rfl, hcM, hCM, hb⟩
                  rw [HE.out] at hcM hCM ⊢
                  have h7 := And.intro (h6.1.below hb) (Kd.C_below h6.2 hb)
                  clear hq h6 hb y0 HI
                  go_wp2_with fail
                  refine (Of AM cM m _ h7.1.l hCM hcM).mono ?_; rintro e w7 ⟨rfl, hb⟩
                  rw [HM.out]
                  have H8 := Aside0.mk (And.intro (h7.1.below hb) (Kd.C_below h7.2 hb))
                  clear h7 hCM hcM hb
                  go_wp2_with fail
                  go_roundg k1
                  case measure => omega
                  case rel => exact ⟨1, rfl, ⟨by have := HJ.out; omega, by omega⟩, H8⟩
                · have hv48' : _ = Value.int .i64 1 := hv48
                  clear hv48
                  subst hv48'
                  have y0 := int_cell HI.out.2 1 6 rfl (by decide)
                  have HM := Aside0.mk (show ofV (nd 6 :: (a ++ b)) = 2 by rw [of_made 6 rfl rtK6 a b (of_pos a (by rw [HVA.out]; decide)) (of_pos b (by rw [HVB.out]; decide)) HS.out, HVA.out, HVB.out]; decide +kernel)
                  obtain ⟨m, hm⟩ : ∃ m, m = nd 6 :: (a ++ b) := ⟨_, rfl⟩
                  rw [← hm] at HM
                  have HE := Aside0.mk hm.symm
                  clear hm
                  go_wp2_with fail
                  have hq := C_pair wr HI.out.1.c1 hc1 HI.out.1.c2 hc2
                  have h6 : InB w _ A1 a A2 b ∧ Kd.C (Kd.int .i64) _ (some ⟨g, 0, none⟩) 5 [5, 6, 7, 8, 10] := And.intro (HI.out.1.below (al wr (.cells #[.slice A1 a.length c1, .slice A2 b.length c2] 51))) (Kd.C_below HI.out.2 (al wr (.cells #[.slice A1 a.length c1, .slice A2 b.length c2] 51)))
                  refine (Make2 (nd 6) _ (by have := HLL.out; omega) (by have := HLL.out; omega) hq).mono ?_; rintro e w6 ⟨AM, cM, rfl, hcM, hCM, hb⟩
                  rw [HE.out] at hcM hCM ⊢
                  have h7 := And.intro (h6.1.below hb) (Kd.C_below h6.2 hb)
                  clear hq h6 hb y0 HI
                  go_wp2_with fail
                  refine (Of AM cM m _ h7.1.l hCM hcM).mono ?_; rintro e w7 ⟨rfl, hb⟩
                  rw [HM.out]
                  have H8 := Aside0.mk (And.intro (h7.1.below hb) (Kd.C_below h7.2 hb))
                  clear h7 hCM hcM hb
                  go_wp2_with fail
                  go_roundg k1
                  case measure => omega
                  case rel => exact ⟨2, rfl, ⟨by have := HJ.out; omega, by omega⟩, H8⟩
                · have hv48' : _ = Value.int .i64 2 := hv48
                  clear hv48
                  subst hv48'
                  have y0 := int_cell HI.out.2 2 7 rfl (by decide)
                  have HM := Aside0.mk (show ofV (nd 7 :: (a ++ b)) = 2 by rw [of_made 7 rfl rtK7 a b (of_pos a (by rw [HVA.out]; decide)) (of_pos b (by rw [HVB.out]; decide)) HS.out, HVA.out, HVB.out]; decide +kernel)
                  obtain ⟨m, hm⟩ : ∃ m, m = nd 7 :: (a ++ b) := ⟨_, rfl⟩
                  rw [← hm] at HM
                  have HE := Aside0.mk hm.symm
                  clear hm
                  go_wp2_with fail
                  have hq := C_pair wr HI.out.1.c1 hc1 HI.out.1.c2 hc2
                  have h6 : InB w _ A1 a A2 b ∧ Kd.C (Kd.int .i64) _ (some ⟨g, 0, none⟩) 5 [5, 6, 7, 8, 10] := And.intro (HI.out.1.below (al wr (.cells #[.slice A1 a.length c1, .slice A2 b.length c2] 51))) (Kd.C_below HI.out.2 (al wr (.cells #[.slice A1 a.length c1, .slice A2 b.length c2] 51)))
                  refine (Make2 (nd 7) _ (by have := HLL.out; omega) (by have := HLL.out; omega) hq).mono ?_; rintro e w6 ⟨AM, cM, rfl, hcM, hCM, hb⟩
                  rw [HE.out] at hcM hCM ⊢
                  have h7 := And.intro (h6.1.below hb) (Kd.C_below h6.2 hb)
                  clear hq h6 hb y0 HI
                  go_wp2_with fail
                  refine (Of AM cM m _ h7.1.l hCM hcM).mono ?_; rintro e w7 ⟨rfl, hb⟩
                  rw [HM.out]
                  have H8 := Aside0.mk (And.intro (h7.1.below hb) (Kd.C_below h7.2 hb))
                  clear h7 hCM hcM hb
                  go_wp2_with fail
                  go_roundg k1
                  case measure => omega
                  case rel => exact ⟨3, rfl, ⟨by have := HJ.out; omega, by omega⟩, H8⟩
                · have hv48' : _ = Value.int .i64 3 := hv48
                  clear hv48
                  subst hv48'
                  have y0 := int_cell HI.out.2 3 8 rfl (by decide)
                  have HM := Aside0.mk (show ofV (nd 8 :: (a ++ b)) = 0 by rw [of_made 8 rfl rtK8 a b (of_pos a (by rw [HVA.out]; decide)) (of_pos b (by rw [HVB.out]; decide)) HS.out, HVA.out, HVB.out]; decide +kernel)
                  obtain ⟨m, hm⟩ : ∃ m, m = nd 8 :: (a ++ b) := ⟨_, rfl⟩
                  rw [← hm] at HM
                  have HE := Aside0.mk hm.symm
                  clear hm
                  go_wp2_with fail
                  have hq := C_pair wr HI.out.1.c1 hc1 HI.out.1.c2 hc2
                  have h6 : InB w _ A1 a A2 b ∧ Kd.C (Kd.int .i64) _ (some ⟨g, 0, none⟩) 5 [5, 6, 7, 8, 10] := And.intro (HI.out.1.below (al wr (.cells #[.slice A1 a.length c1, .slice A2 b.length c2] 51))) (Kd.C_below HI.out.2 (al wr (.cells #[.slice A1 a.length c1, .slice A2 b.length c2] 51)))
                  refine (Make2 (nd 8) _ (by have := HLL.out; omega) (by have := HLL.out; omega) hq).mono ?_; rintro e w6 ⟨AM, cM, rfl, hcM, hCM, hb⟩
                  rw [HE.out] at hcM hCM ⊢
                  have h7 := And.intro (h6.1.below hb) (Kd.C_below h6.2 hb)
                  clear hq h6 hb y0 HI
                  go_wp2_with fail
                  refine (Of AM cM m _ h7.1.l hCM hcM).mono ?_; rintro e w7 ⟨rfl, hb⟩
                  rw [HM.out]
                  have H8 := Aside0.mk (And.intro (h7.1.below hb) (Kd.C_below h7.2 hb))
                  clear h7 hCM hcM hb
                  go_wp2_with fail
                  go_roundg k1
                  case measure => omega
                  case rel => exact ⟨4, rfl, ⟨by have := HJ.out; omega, by omega⟩, H8⟩
                · have hv48' : _ = Value.int .i64 4 := hv48
                  clear hv48
                  subst hv48'
                  have y0 := int_cell HI.out.2 4 10 rfl (by decide)
                  have HM := Aside0.mk (show ofV (nd 10 :: (a ++ b)) = 0 by rw [of_made 10 rfl rtK10 a b (of_pos a (by rw [HVA.out]; decide)) (of_pos b (by rw [HVB.out]; decide)) HS.out, HVA.out, HVB.out]; decide +kernel)
                  obtain ⟨m, hm⟩ : ∃ m, m = nd 10 :: (a ++ b) := ⟨_, rfl⟩
                  rw [← hm] at HM
                  have HE := Aside0.mk hm.symm
                  clear hm
                  go_wp2_with fail
                  have hq := C_pair wr HI.out.1.c1 hc1 HI.out.1.c2 hc2
                  have h6 : InB w _ A1 a A2 b ∧ Kd.C (Kd.int .i64) _ (some ⟨g, 0, none⟩) 5 [5, 6, 7, 8, 10] := And.intro (HI.out.1.below (al wr (.cells #[.slice A1 a.length c1, .slice A2 b.length c2] 51))) (Kd.C_below HI.out.2 (al wr (.cells #[.slice A1 a.length c1, .slice A2 b.length c2] 51)))
                  refine (Make2 (nd 10) _ (by have := HLL.out; omega) (by have := HLL.out; omega) hq).mono ?_; rintro e w6 ⟨AM, cM, rfl, hcM, hCM, hb⟩
                  rw [HE.out] at hcM hCM ⊢
                  have h7 := And.intro (h6.1.below hb) (Kd.C_below h6.2 hb)
                  clear hq h6 hb y0 HI
                  go_wp2_with fail
                  refine (Of AM cM m _ h7.1.l hCM hcM).mono ?_; rintro e w7 ⟨rfl, hb⟩
                  rw [HM.out]
                  have H8 := Aside0.mk (And.intro (h7.1.below hb) (Kd.C_below h7.2 hb))
                  clear h7 hCM hcM hb
                  go_wp2_with fail
                  go_roundg k1
                  case measure => omega
                  case rel => exact ⟨5, rfl, ⟨by have := HJ.out; omega, by omega⟩, H8⟩
                · have hv48' : _ = Value.int .i64 5 := hv48
                  clear hv48
                  subst hv48'
                  have h6 := HI.out.1
                  clear HI
                  go_wp2_with fail
                  refine (f51 h6).mono ?_; rintro e w8 ⟨rfl, h7⟩
                  clear h6
                  go_wp2_with fail
                  (try rw [Exit.noGoto_ret])
                  go_ret
                  exact ⟨rfl, h7.b⟩
          · have HVB := Aside0.mk hv
            clear hv
            go_enter Tryd.func19, Tryd.ntmps19
            go_wp2_with fail
            refine (f50a true hc1 HF.out h0).mono ?_; rintro e w1 ⟨rfl, h1⟩
            clear h0
            go_wp2_with fail
            refine (f50b true hc2 HG.out h1).mono ?_; rintro e w2 ⟨rfl, h2⟩
            clear h1
            go_wp2_with fail
            refine (f52a 2 hc1 HVA.out h2).mono ?_; rintro e w3 ⟨rfl, h3⟩
            clear h2
            go_wp2_with fail
            refine (f52b 3 hc2 HVB.out h3).mono ?_; rintro e w4 ⟨rfl, h4⟩
            clear h3
            go_wp2_with fail
            refine (f51 h4).mono ?_; rintro e w5 ⟨rfl, h5⟩
            clear h4
            go_wp2_with fail
            (try rw [Exit.noGoto_ret])
            go_ret
            exact ⟨rfl, h5.b⟩
          · have HVB := Aside0.mk hv
            clear hv
            go_enter Tryd.func19, Tryd.ntmps19
            go_wp2_with fail
            refine (f50a true hc1 HF.out h0).mono ?_; rintro e w1 ⟨rfl, h1⟩
            clear h0
            go_wp2_with fail
            refine (f50b true hc2 HG.out h1).mono ?_; rintro e w2 ⟨rfl, h2⟩
            clear h1
            go_wp2_with fail
            refine (f52a 2 hc1 HVA.out h2).mono ?_; rintro e w3 ⟨rfl, h3⟩
            clear h2
            go_wp2_with fail
            refine (f52b 4 hc2 HVB.out h3).mono ?_; rintro e w4 ⟨rfl, h4⟩
            clear h3
            go_wp2_with fail
            refine (f51 h4).mono ?_; rintro e w5 ⟨rfl, h5⟩
            clear h4
            go_wp2_with fail
            (try rw [Exit.noGoto_ret])
            go_ret
            exact ⟨rfl, h5.b⟩
        · have HVA := Aside0.mk hv
          clear hv
          obtain ⟨y, hy⟩ : ∃ y, y = ofV b := ⟨_, rfl⟩
          have HVB := Aside0.mk hy.symm
          clear hy
          go_enter Tryd.func19, Tryd.ntmps19
          go_wp2_with fail
          refine (f50a true hc1 HF.out h0).mono ?_; rintro e w1 ⟨rfl, h1⟩
          clear h0
          go_wp2_with fail
          refine (f50b true hc2 HG.out h1).mono ?_; rintro e w2 ⟨rfl, h2⟩
          clear h1
          go_wp2_with fail
          refine (f52a 3 hc1 HVA.out h2).mono ?_; rintro e w3 ⟨rfl, h3⟩
          clear h2
          go_wp2_with fail
          refine (f52b y hc2 HVB.out h3).mono ?_; rintro e w4 ⟨rfl, h4⟩
          clear h3
          go_wp2_with fail
          refine (f51 h4).mono ?_; rintro e w5 ⟨rfl, h5⟩
          clear h4
          go_wp2_with fail
          (try rw [Exit.noGoto_ret])
          go_ret
          exact ⟨rfl, h5.b⟩
        · have HVA := Aside0.mk hv
          clear hv
          obtain ⟨y, hy⟩ : ∃ y, y = ofV b := ⟨_, rfl⟩
          have HVB := Aside0.mk hy.symm
          clear hy
          go_enter Tryd.func19, Tryd.ntmps19
          go_wp2_with fail
          refine (f50a true hc1 HF.out h0).mono ?_; rintro e w1 ⟨rfl, h1⟩
          clear h0
          go_wp2_with fail
          refine (f50b true hc2 HG.out h1).mono ?_; rintro e w2 ⟨rfl, h2⟩
          clear h1
          go_wp2_with fail
          refine (f52a 4 hc1 HVA.out h2).mono ?_; rintro e w3 ⟨rfl, h3⟩
          clear h2
          go_wp2_with fail
          refine (f52b y hc2 HVB.out h3).mono ?_; rintro e w4 ⟨rfl, h4⟩
          clear h3
          go_wp2_with fail
          refine (f51 h4).mono ?_; rintro e w5 ⟨rfl, h5⟩
          clear h4
          go_wp2_with fail
          (try rw [Exit.noGoto_ret])
          go_ret
          exact ⟨rfl, h5.b⟩
      · have kw : wrap64 ((a.length : Int) + (b.length : Int)) = (a.length : Int) + (b.length : Int) := w64 _ (by omega) (by omega)
        have k1 : decide ((a.length : Int) + (b.length : Int) ≥ 200) = true := decide_eq_true (by omega)
        have k2 : decide (200 ≤ a.length + b.length) = true := decide_eq_true (by omega)
        have k3 : decide ((200 : Int) ≤ (a.length : Int) + (b.length : Int)) = true := decide_eq_true (by omega)
        clear hs la lb
        go_enter Tryd.func19, Tryd.ntmps19
        go_wp2_with fail
        refine (f50a true hc1 HF.out h0).mono ?_; rintro e w1 ⟨rfl, h1⟩
        clear h0
        go_wp2_with fail
        refine (f50b true hc2 HG.out h1).mono ?_; rintro e w2 ⟨rfl, h2⟩
        clear h1
        go_wp2_with fail
        refine (f51 h2).mono ?_; rintro e w3 ⟨rfl, h3⟩
        clear h2
        go_wp2_with fail
        (try rw [Exit.noGoto_ret])
        go_ret
        exact ⟨rfl, h3.b⟩
    · have HG := Aside0.mk (show few4 b = false by simpa using hg)
      clear hg
      go_enter Tryd.func19, Tryd.ntmps19
      go_wp2_with fail
      refine (f50a true hc1 HF.out h0).mono ?_; rintro e w1 ⟨rfl, h1⟩
      clear h0
      go_wp2_with fail
      refine (f50b false hc2 HG.out h1).mono ?_; rintro e w2 ⟨rfl, h2⟩
      clear h1
      go_wp2_with fail
      refine (f51 h2).mono ?_; rintro e w3 ⟨rfl, h3⟩
      clear h2
      go_wp2_with fail
      (try rw [Exit.noGoto_ret])
      go_ret
      exact ⟨rfl, h3.b⟩
  · have HF := Aside0.mk (show few4 a = false by simpa using hf)
    clear hf
    go_enter Tryd.func19, Tryd.ntmps19
    go_wp2_with fail
    refine (f50a false hc1 HF.out h0).mono ?_; rintro e w1 ⟨rfl, h1⟩
    clear h0
    go_wp2_with fail
    refine (f51 h1).mono ?_; rintro e w2 ⟨rfl, h2⟩
    clear h1
    go_wp2_with fail
    (try rw [Exit.noGoto_ret])
    go_ret
    exact ⟨rfl, h2.b⟩
end Go.Proofs.YtefiadocljnpjaaDoor.Row
